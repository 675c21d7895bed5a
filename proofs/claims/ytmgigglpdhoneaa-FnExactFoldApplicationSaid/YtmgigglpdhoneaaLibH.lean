
import Derived.Test.YtmgigglpdhoneaaLibG
import Derived.Test.YtmgigglpdhoneaaLibE
set_option linter.unusedVariables false
set_option linter.unusedSimpArgs false
namespace Go.Abs
def Ctx.fz (C : Ctx) (u : Nat) (L : Loc) : Ctx :=
 {reg := fun l b => C.reg l b ∨ (l = 1 ∧ (L.blk = some b ∨ b ∈ C.sub u)), lv := C.lv, loc := fun x => if x = u then none else C.loc x, nx := C.nx, sub := fun x => if x = u then [] else C.sub x }
section
variable {C : Ctx} {w : World} {h : List (Nat × HB)}
theorem ay7 {u : Nat} {L : Loc} {x : Nat} {M : Loc} (hx : (C.fz u L).loc x = some M) : x ≠ u ∧ C.loc x = some M := by
 simp only [Ctx.fz] at hx
 split at hx
 ·cases hx
 ·exact ⟨by assumption, hx⟩
theorem bo9 {u : Nat} {L : Loc} {x b : Nat} (hx : b ∈ (C.fz u L).sub x) : x ≠ u ∧ b ∈ C.sub x := by
 simp only [Ctx.fz] at hx
 split at hx
 ·cases hx
 ·exact ⟨by assumption, hx⟩
theorem fz_ext (u : Nat) (L : Loc) : Ext C (C.fz u L) w w :=
 ⟨Nat.le_refl _, fun x M _ h => ⟨M, (ay7 h).2, .inl rfl⟩, fun _ _ h => h, fun _ _ _ _ hb => ⟨.inl hb, rfl⟩⟩
theorem fz_core (H : HSt C w h) {u : Nat} {L : Loc} (hL : C.loc u = some L) : HSt (C.fz u L) w (hdel u h) ∧ Fr C (C.fz u L) w w := by
 have E := fz_ext (C := C) (w := w) u L
 refine ⟨⟨fun x hx => ?_, fun x hbk hx => ?_, fun x M hM => H.lt x M (ay7 hM).2, fun x x' M M' c g1 g2 => H.inj x x' M M' c (ay7 g1).2 (ay7 g2).2, fun x M c l g1 g2 g3 g4 => ?_, fun l c g1 g2 => ?_, H.lvs, fun l l' c g1 g2 g3 g4 => ?_, H.zero, H.two,
  ⟨fun x hb M hx hM => ?_, fun x hx => ?_, fun x => ?_, fun x b hb => H.sub.lt x b (bo9 hb).2, fun x b x' M hb g1 g2 => H.sub.root x b x' M (bo9 hb).2 (ay7 g1).2 g2, fun x x' b hb hb' => H.sub.dis x x' b (bo9 hb).2 (bo9 hb').2, fun x b l hb g1 g2 => ?_⟩, H.tabE E H.zero.1⟩, ?_⟩
 ·rw [ah4] at hx
  simp only [Ctx.fz]
  split
  ·rfl
  ·rename_i hne; rw [if_neg hne] at hx; exact H.dom x hx
 ·rw [ah4] at hx
  split at hx
  ·cases hx
  ·rename_i hne
   obtain ⟨M, g1, g2, g3, g4⟩ := H.ent x hbk hx
   exact ⟨M, by simp [Ctx.fz, hne, g1], g2, g3, g4.mono E (fun _ _ => rfl)⟩
 ·obtain ⟨g5, g6⟩ := ay7 g1
  rcases g4 with g4 | ⟨_, g4 | g4⟩
  ·exact H.own x M c l g6 g2 g3 g4
  ·exact g5 (H.inj x u M L c g6 hL g2 g4)
  ·exact H.sub.root u c x M g4 g6 g2
 ·rcases g2 with g2 | ⟨_, g2 | g2⟩
  ·exact H.regs l c g1 g2
  ·exact H.rootlt hL g2
  ·exact H.sub.lt u c g2
 ·have k1 : ∀ l, C.lv l → C.reg l c → (L.blk = some c ∨ c ∈ C.sub u) → False := fun l a1 a2 a3 => by
   rcases a3 with a3 | a3
   ·exact H.own u L c l hL a3 a1 a2
   ·exact H.sub.reg u c l a3 a1 a2
  rcases g3 with g3 | ⟨e3, g3⟩ <;> rcases g4 with g4 | ⟨e4, g4⟩
  ·exact H.rdis l l' c g1 g2 g3 g4
  ·exact (k1 l g1 g3 g4).elim
  ·exact (k1 l' g2 g4 g3).elim
  ·rw [e3, e4]
 ·rw [ah4] at hx
  split at hx
  ·cases hx
  ·rename_i hne
   simp only [Ctx.fz]
   rw [if_neg hne]
   exact H.sub.dp x hb M hx (ay7 hM).2
 ·simp only [Ctx.fz] at hx ⊢
  split at hx
  ·rename_i e; rw [if_pos e]
  ·rename_i e; rw [if_neg e]; exact H.sub.s0 x hx
 ·simp only [Ctx.fz]
  split
  ·exact .nil
  ·exact H.sub.nd x
 ·obtain ⟨g3, g4⟩ := bo9 hb
  rcases g2 with g2 | ⟨_, g2 | g2⟩
  ·exact H.sub.reg x b l g4 g1 g2
  ·exact H.sub.root x b u L g4 hL g2
  ·exact g3 (H.sub.dis x u b g4 g2)
 ·refine ⟨Nat.le_refl _, fun _ _ _ => rfl, fun b hb => ?_, fun b hb => ?_, fun b hb => ?_, rfl, rfl, fun x _ M h => ⟨M, (ay7 h).2, .inl rfl⟩⟩
  ·rcases hb with ⟨x, M, g1, g2⟩ | ⟨l, g1, g2, g3⟩ | ⟨x, g1⟩
   ·exact .inl (.inl ⟨x, M, (ay7 g1).2, g2⟩)
   ·rcases g3 with g3 | ⟨e, _⟩
    ·exact .inl (.inr (.inl ⟨l, g1, g2, g3⟩))
    ·omega
   ·exact .inl (.inr (.inr ⟨x, (bo9 g1).2⟩))
  ·rcases hb with hb | ⟨e, _⟩
   ·exact hb
   ·omega
  ·rcases hb with hb | ⟨_, hb | hb⟩
   ·exact .inl hb
   ·exact .inr (.inl (.inl ⟨u, L, hL, hb⟩))
   ·exact .inr (.inl (.inr (.inr ⟨u, hb⟩)))
def f1k : Nat → Nat := fun _ => 1
theorem fz_rep (H : HSt C w h) {u n sz : Nat} {rows rows' : List (List V)} (hu : hget h u = some ⟨sz, rows⟩) (hn : n = rows.length) (hz : sz ≠ 0) (hdp : ∀ row ∈ rows, row.all dpV = true) (hr : V.rlR f1k rows = rows') {v : Value} {L : Loc} (hL : C.loc u = some L) (hv : Rep C w v (.hsl u 0 n)) :
  Rep (C.fz u L) w v (.psl 1 sz rows') := by
 subst hr; subst hn
 obtain ⟨L', h1, h2, h3, h4, h5⟩ := ai8 H hv hu (by show 0 + rows.length = rows.length; omega)
 rw [hL] at h1; simp only [Option.some.injEq] at h1; subst h1
 have h2' : L.sz = sz := h2
 have hd := br2 (by rw [h2']; exact hz) h5 h4 (H.sub.dp u _ L hu hL) hdp
 rw [h2'] at hd
 have h1lt : 1 < C.nx := by have := H.two; omega
 refine DeepV.rep (C := C.fz u L) (k := 1) H.zero.2.1 h1lt (fun b hb => .inr ⟨rfl, ?_⟩) hd
 rcases List.mem_append.1 hb with hb | hb
 ·exact .inl (by simpa using hb)
 ·exact .inr hb
mutual
inductive FzD (D : V → V → Prop) : V → V → Prop
 | hit {x z : V} (h : D x z) : FzD D x z
 | refl (x : V) : FzD D x x
 | agg {xs zs : List V} (h : FzL D xs zs) : FzD D (.agg xs) (.agg zs)
 | tup {xs zs : List V} (h : FzL D xs zs) : FzD D (.tup xs) (.tup zs)
inductive FzL (D : V → V → Prop) : List V → List V → Prop
 | nil : FzL D [] []
 | cons {x z : V} {xs zs : List V} (h : FzD D x z) (t : FzL D xs zs) : FzL D (x :: xs) (z :: zs)
end
mutual
theorem FzD.rep {C' : Ctx} {D : V → V → Prop} (E : Ext C C' w w) (hD : ∀ x z v, D x z → Rep C w v x → Rep C' w v z) : ∀ {x z : V}, FzD D x z → ∀ {v : Value}, Rep C w v x → Rep C' w v z
 | _, _, .hit h, _, hv => hD _ _ _ h hv
 | _, _, .refl _, _, hv => hv.mono E
 | _, _, .agg h, _, hv => by cases hv with | agg hv => exact .agg (FzL.rep E hD h hv)
 | _, _, .tup h, _, hv => by cases hv with | tup hv => exact .tup (FzL.rep E hD h hv)
theorem FzL.rep {C' : Ctx} {D : V → V → Prop} (E : Ext C C' w w) (hD : ∀ x z v, D x z → Rep C w v x → Rep C' w v z) : ∀ {xs zs : List V}, FzL D xs zs → ∀ {vs : List Value}, RepL C w vs xs → RepL C' w vs zs
 | _, _, .nil, _, hv => by cases hv; exact .nil
 | _, _, .cons h t, _, hv => by cases hv with | cons hv hs => exact .cons (FzD.rep E hD h hv) (FzL.rep E hD t hs)
end
def Dz (us : List (Nat × Nat × V)) : V → V → Prop := fun x z => ∃ u n, (u, n, z) ∈ us ∧ x = .hsl u 0 n
theorem fz_all : ∀ (us : List (Nat × Nat × V)) {C : Ctx} {h : List (Nat × HB)} (H : HSt C w h) (hd : distinct (us.map (·.1)) = true)
  (hu : ∀ u n z, (u, n, z) ∈ us → ∃ sz rows rows', hget h u = some ⟨sz, rows⟩ ∧ n = rows.length ∧ sz ≠ 0 ∧ (∀ row ∈ rows, row.all dpV = true) ∧ V.rlR f1k rows = rows' ∧ z = .psl 1 sz rows'),
  ∃ C' h', HSt C' w h' ∧ Ext C C' w w ∧ Fr C C' w w ∧ ∀ x z v, Dz us x z → Rep C w v x → Rep C' w v z
 | [], C, h, H, _, _ => ⟨C, h, H, Ext.refl _ _, Fr.refl _ _, fun x z v hx => by obtain ⟨_, _, h, _⟩ := hx; cases h⟩
 | (u, n, z) :: us, C, h, H, hd, hu => by
  simp only [List.map_cons, distinct, Bool.and_eq_true, Bool.not_eq_true'] at hd
  obtain ⟨sz, rows, rows', a1, a2, a3, a4, a5, rfl⟩ := hu u n z (by simp)
  obtain ⟨L, hL, _⟩ := H.ent u _ a1
  obtain ⟨k1, k2⟩ := fz_core H hL
  have hne : ∀ u' n' z', (u', n', z') ∈ us → u' ≠ u := fun u' n' z' hm e => by
   subst e
   obtain ⟨j, hj⟩ := List.getElem?_of_mem (List.mem_map_of_mem (f := (·.1)) hm)
   exact ao5 hd.1 j hj
  obtain ⟨C', h', b1, b2, b3, b4⟩ := fz_all us k1 hd.2 (fun u' n' z' hm => by
   obtain ⟨s', r', q', c1, c2⟩ := hu u' n' z' (by simp [hm])
   exact ⟨s', r', q', by rw [ah4, if_neg (hne _ _ _ hm)]; exact c1, c2⟩)
  refine ⟨C', h', b1, (fz_ext u L).trans b2, k2.trans b3, fun x z v hx hv => ?_⟩
  obtain ⟨u', n', hm, rfl⟩ := hx
  rcases List.mem_cons.1 hm with hm | hm
  ·simp only [Prod.mk.injEq] at hm
   obtain ⟨rfl, rfl, rfl⟩ := hm
   exact (fz_rep H a1 a2 a3 a4 a5 hL hv).mono b2
  ·exact b4 _ _ v ⟨u', n', hm, rfl⟩ (hv.mono (fz_ext u L))
end
section
variable {P : Program} {f : FuncId} {args : List V} {h : List (Nat × HB)} {nx : Nat}
structure FzR (b : HB) (n : Nat) (z : V) : Prop where
 n : n = b.rows.length
 sz : Nat.beq b.sz 0 = false
 dp : ∀ row ∈ b.rows, row.all dpV = true
 z : z = .psl 1 b.sz (V.rlR f1k b.rows)
theorem FzR.ex {b : HB} {n : Nat} {z : V} (h : FzR b n z) {H : List (Nat × HB)} {u : Nat} (hu : hget H u = some b) : ∃ sz rows rows', hget H u = some ⟨sz, rows⟩ ∧ n = rows.length ∧ sz ≠ 0 ∧ (∀ row ∈ rows, row.all dpV = true) ∧ V.rlR f1k rows = rows' ∧ z = .psl 1 sz rows' :=
 ⟨b.sz, b.rows, _, hu, h.n, fun e => by have := h.sz; rw [e] at this; simp at this, h.dp, rfl, h.z⟩
theorem fzr {α : Type} (c : Cd α) (l : Nat) (xs : List α) (hz : Nat.beq c.sz 0 = false) (hd : ∀ x, (c.row l x).all dpV = true) : FzR ⟨c.sz, xs.map (c.enc l)⟩ xs.length (.psl 1 c.sz (xs.map (c.enc 1))) :=
 ⟨by simp, hz, Cd.dps0 c l hd xs, by rw [c.rlR]; rfl⟩
theorem fc_fz {R : V → List (Nat × HB) → Prop} {z : V} (hc : FC P f args h nx R)
  (hR : ∀ x h2, R x h2 → ∃ us : List (Nat × Nat × V), distinct (us.map (·.1)) = true ∧ FzD (Dz us) x z ∧ ∀ u n z, (u, n, z) ∈ us → ∃ b, hget h2 u = some b ∧ FzR b n z) : FC P f args h nx (fun x _ => x = z) :=
 ⟨hc.1, fun C w cargs h1 h2 h3 => (hc.2 C w cargs h1 h2 h3).mono fun e w' ⟨v, C', r, h', e1, e2, e3, e4, e5⟩ => by
  obtain ⟨us, k1, k2, k3⟩ := hR r h' e5
  obtain ⟨C2, H2, b1, b2, b3, b4⟩ := fz_all us e2 k1 (fun u n z hm => by obtain ⟨b, c1, c2⟩ := k3 u n z hm; exact c2.ex c1)
  exact ⟨v, C2, z, H2, e1, b1, FzD.rep b2 b4 k2 e3, e4.trans b3, rfl⟩⟩
theorem fc_fz1 {y : Nat → V} {z p1 : V} {n1 : Nat} {b1 : HB} (hc : FC P f args h nx (fun x h2 => ∃ j, x = y j ∧ hget h2 j = some b1)) (r1 : FzR b1 n1 p1) (hz : ∀ j, FzD (Dz [(j, n1, p1)]) (y j) z) : FC P f args h nx (fun x _ => x = z) :=
 fc_fz hc fun x h2 ⟨j, e, g1⟩ => ⟨[(j, n1, p1)], rfl, e ▸ hz j, fun u n z hm => by simp only [List.mem_singleton, Prod.mk.injEq] at hm; obtain ⟨rfl, rfl, rfl⟩ := hm; exact ⟨b1, g1, r1⟩⟩
theorem fc_fz2 {y : Nat → Nat → V} {z p1 p2 : V} {n1 n2 : Nat} {b1 b2 : HB} (hc : FC P f args h nx (fun x h2 => ∃ j k, x = y j k ∧ distinct [j, k] = true ∧ hget h2 j = some b1 ∧ hget h2 k = some b2)) (r1 : FzR b1 n1 p1) (r2 : FzR b2 n2 p2)
  (hz : ∀ j k, FzD (Dz [(j, n1, p1), (k, n2, p2)]) (y j k) z) : FC P f args h nx (fun x _ => x = z) :=
 fc_fz hc fun x h2 ⟨j, k, e, hd, g1, g2⟩ => ⟨[(j, n1, p1), (k, n2, p2)], hd, e ▸ hz j k, fun u n z hm => by
  simp only [List.mem_cons, List.not_mem_nil, or_false, Prod.mk.injEq] at hm
  rcases hm with ⟨rfl, rfl, rfl⟩ | ⟨rfl, rfl, rfl⟩
  ·exact ⟨b1, g1, r1⟩
  ·exact ⟨b2, g2, r2⟩⟩
theorem fc_fz3 {y : Nat → Nat → Nat → V} {z p1 p2 p3 : V} {n1 n2 n3 : Nat} {b1 b2 b3 : HB} (hc : FC P f args h nx (fun x h2 => ∃ j k l, x = y j k l ∧ distinct [j, k, l] = true ∧ hget h2 j = some b1 ∧ hget h2 k = some b2 ∧ hget h2 l = some b3)) (r1 : FzR b1 n1 p1) (r2 : FzR b2 n2 p2) (r3 : FzR b3 n3 p3)
  (hz : ∀ j k l, FzD (Dz [(j, n1, p1), (k, n2, p2), (l, n3, p3)]) (y j k l) z) : FC P f args h nx (fun x _ => x = z) :=
 fc_fz hc fun x h2 ⟨j, k, l, e, hd, g1, g2, g3⟩ => ⟨[(j, n1, p1), (k, n2, p2), (l, n3, p3)], hd, e ▸ hz j k l, fun u n z hm => by
  simp only [List.mem_cons, List.not_mem_nil, or_false, Prod.mk.injEq] at hm
  rcases hm with ⟨rfl, rfl, rfl⟩ | ⟨rfl, rfl, rfl⟩ | ⟨rfl, rfl, rfl⟩
  ·exact ⟨b1, g1, r1⟩
  ·exact ⟨b2, g2, r2⟩
  ·exact ⟨b3, g3, r3⟩⟩
theorem dz1 {u n : Nat} {p : V} {us : List (Nat × Nat × V)} : FzD (Dz ((u, n, p) :: us)) (.hsl u 0 n) p := .hit ⟨u, n, by simp, rfl⟩
theorem dz2 {u n : Nat} {p : V} {a : Nat × Nat × V} {us : List (Nat × Nat × V)} : FzD (Dz (a :: (u, n, p) :: us)) (.hsl u 0 n) p := .hit ⟨u, n, by simp, rfl⟩
theorem dz3 {u n : Nat} {p : V} {a b : Nat × Nat × V} {us : List (Nat × Nat × V)} : FzD (Dz (a :: b :: (u, n, p) :: us)) (.hsl u 0 n) p := .hit ⟨u, n, by simp, rfl⟩
end
end Go.Abs

namespace Go.Abs
def numb : Nat → List HB → List (Nat × HB)
 | _, [] => []
 | i, b :: r => (i, b) :: numb (i + 1) r
def rowsAt (h2 : List (Nat × HB)) : Nat → List HB → Prop
 | _, [] => True
 | i, [c] => hget h2 i = some c
 | i, c :: c2 :: r => hget h2 i = some c ∧ rowsAt h2 (i + 1) (c2 :: r)
theorem ra1 {h2 : List (Nat × HB)} {i : Nat} {c : HB} (h : hget h2 i = some c) : rowsAt h2 i [c] := h
theorem raC {h2 : List (Nat × HB)} {i : Nat} {c c2 : HB} {r : List HB} (h : hget h2 i = some c) (t : rowsAt h2 (i + 1) (c2 :: r)) : rowsAt h2 i (c :: c2 :: r) := ⟨h, t⟩
theorem mrow_rlR {α β : Type} (K : Kc α) (E : Kc β) (f : Nat → Nat) (m : List (α × β)) : V.rlR f [mrow K E m] = [mrow K E m] := by simp [V.rlR, mrow_rl]
theorem bt6 : ∀ (bs : List HB) (i j : Nat), hget (numb i bs) (i + j) = bs[j]?
 | [], _, _ => rfl
 | b :: r, i, 0 => by simp [numb, hget]
 | b :: r, i, j + 1 => by
  simp only [numb, hget]
  rw [Bool.cond_eq_ite, if_neg (by simp)]
  have := bt6 r (i + 1) j
  rw [show i + (j + 1) = i + 1 + j by omega, this]
  simp
theorem bp7 {h2 : List (Nat × HB)} : ∀ (cs : List HB) (i j : Nat) (c : HB), rowsAt h2 i cs → cs[j]? = some c → hget h2 (i + j) = some c
 | [], _, _, _, _, h => by simp at h
 | [c0], i, 0, c, hr, h => by simp at h; subst h; exact hr
 | [c0], i, j + 1, c, hr, h => by simp at h
 | c0 :: c2 :: r, i, 0, c, hr, h => by simp at h; subst h; exact hr.1
 | c0 :: c2 :: r, i, j + 1, c, hr, h => by
  have := bp7 (c2 :: r) (i + 1) j c hr.2 (by simpa using h)
  rw [show i + (j + 1) = i + 1 + j by omega]; exact this
theorem au3 {T : List TI} {s : St} {rs : List ResultVar} {r x : V} {cs : List HB} (h : resV T s rs = some r) (hR : VLe r x) (hQ : rowsAt s.heap 0 cs) : retK T rs (fun y h2 => VLe y x ∧ rowsAt h2 0 cs) .ret s := ⟨r, h, hR, hQ⟩
inductive RnB (g : Nat → Option Nat) : List HB → List HB → Prop
 | nil : RnB g [] []
 | cons {sz : Nat} {rows0 rows : List (List V)} {bs0 bs : List HB} (h : rnR g rows0 = rows) (t : RnB g bs0 bs) : RnB g (⟨sz, rows0⟩ :: bs0) (⟨sz, rows⟩ :: bs)
theorem RnB.length {g : Nat → Option Nat} : ∀ {bs0 bs : List HB}, RnB g bs0 bs → bs0.length = bs.length
 | _, _, .nil => rfl
 | _, _, .cons _ t => by simp [t.length]
theorem RnB.get {g : Nat → Option Nat} : ∀ {bs0 bs : List HB}, RnB g bs0 bs → ∀ (j : Nat) (b : HB), bs[j]? = some b → ∃ b0, bs0[j]? = some b0 ∧ b.sz = b0.sz ∧ b.rows = rnR g b0.rows
 | _, _, .nil, j, b, h => by simp at h
 | _, _, .cons h0 t, 0, b, h => by simp at h; subst h; exact ⟨_, rfl, rfl, h0.symm⟩
 | _, _, .cons h0 t, j + 1, b, h => by simpa using t.get j b (by simpa using h)
def St.wrL : St → List Nat → List HB → St
 | s, u :: us, b :: bs => (s.wr u b).wrL us bs
 | s, _, _ => s
theorem wrL_rest : ∀ (us : List Nat) (bs : List HB) (s : St), (s.wrL us bs).env = s.env ∧ (s.wrL us bs).nx = s.nx ∧ (s.wrL us bs).n = s.n ∧ (s.wrL us bs).lv = s.lv
 | [], _, s => ⟨rfl, rfl, rfl, rfl⟩
 | _ :: _, [], s => ⟨rfl, rfl, rfl, rfl⟩
 | u :: us, b :: bs, s => by
  obtain ⟨h1, h2, h3, h4⟩ := wrL_rest us bs (s.wr u b)
  cases s
  exact ⟨h1, h2, h3, h4⟩
theorem wrL_get : ∀ (us : List Nat) (bs : List HB) (s : St) (x : Nat), us.length = bs.length → distinct us = true → hget (s.wrL us bs).heap x = match dn us x with | some j => bs[j]? | none => hget s.heap x
 | [], _, s, x, _, _ => rfl
 | _ :: _, [], s, x, hl, _ => by simp at hl
 | u :: us, b :: bs, s, x, hl, hd => by
  simp only [distinct, Bool.and_eq_true, Bool.not_eq_true'] at hd
  have ih := wrL_get us bs (s.wr u b) x (by simpa using hl) hd.2
  show hget ((s.wr u b).wrL us bs).heap x = _
  rw [ih]
  simp only [dn]
  cases e : Nat.beq x u with
  | true =>
   rw [Nat.beq_eq] at e
   subst e
   have : dn us x = none := by
    cases hj : dn us x with
    | none => rfl
    | some j => exact absurd (ak9 hj) (ao5 hd.1 j)
   rw [this]
   cases s
   simp [St.wr, hget]
  | false =>
   cases hj : dn us x with
   | none =>
    cases s
    simp only [St.wr, hget, e, cond_false]
   | some j => simp
section
variable {P : Program} {s : St} {ops : Array Oper} {f : FuncId} {args : List Operand} {args' : List V} {tys : Array TypeId} {d : Option Nat} {ty : Nat} {pos : String} {af : Array Edge} {gu : Option (Nat × Bool)} {r : List Oper} {K : St → Prop} {s1 : St}
theorem am3 (us : List Nat) {bs0 bs cs cs0 : List HB} {y y' : V} (hc : FC P f args' (numb 0 bs) 8 (fun x h2 => x = y ∧ rowsAt h2 0 cs)) (hg : gd ops.toList s gu = some true)
  (hl : Nat.ble us.length 8 = true) (hd : distinct us = true) (hlen : (Nat.beq us.length bs.length && Nat.beq us.length cs.length) = true) (hv : V.rnL (dn us) (evL s args) = args')
  (hu : us.map (hget s.heap) = bs0.map some) (hin : RnB (dn us) bs0 bs) (hy : y.rn (us[·]?) = y') (hout : RnB (us[·]?) cs cs0) (hp : (s.wrL us cs0).put d y' = some s1) (h : AOps P ops r s1 K) :
  AOps P ops (⟨d, .call ⟨.value (.func f), ⟨args⟩, tys⟩, ty, pos, af, gu⟩ :: r) s K := by
 rw [Bool.and_eq_true, Nat.beq_eq, Nat.beq_eq] at hlen
 have hu' : ∀ (j : Nat) b0, bs0[j]? = some b0 → ∃ u, us[j]? = some u ∧ hget s.heap u = some b0 := fun j b0 hj => by
  have h1 : (us.map (hget s.heap))[j]? = some (some b0) := by rw [hu]; simp [hj]
  simp only [List.getElem?_map, Option.map_eq_some_iff] at h1
  exact h1
 refine bg6 us hc hg hl hd hv ⟨fun j hj => ?_, fun j hb' hj => ?_⟩ fun x h2 hR => ⟨(s.wrL us cs0).heap, s1, fun x => ⟨fun j hj => ?_, fun hj => ?_⟩, ?_, h⟩
 ·have h0 := bt6 bs 0 j
  rw [Nat.zero_add] at h0
  rw [h0] at hj
  have := List.getElem?_eq_none_iff.1 hj
  exact List.getElem?_eq_none (by omega)
 ·have h0 := bt6 bs 0 j
  rw [Nat.zero_add] at h0
  rw [h0] at hj
  obtain ⟨b0, h1, h2, h3⟩ := hin.get j hb' hj
  obtain ⟨u, h4, h5⟩ := hu' j b0 h1
  exact ⟨u, b0, h4, h5, h2, h3⟩
 ·rw [wrL_get us cs0 s x (hlen.2.trans hout.length) hd, hj]
  have hjl : j < us.length := by
   have := ak9 hj
   rcases Nat.lt_or_ge j us.length with h | h
   ·exact h
   ·simp [List.getElem?_eq_none h] at this
  have hcl := hout.length
  obtain ⟨c0, hc0⟩ : ∃ c0, cs0[j]? = some c0 := ⟨cs0[j]'(by omega), List.getElem?_eq_getElem (by omega)⟩
  have hcj : ∃ c, cs[j]? = some c := ⟨cs[j]'(by omega), List.getElem?_eq_getElem (by omega)⟩
  obtain ⟨c, hcj⟩ := hcj
  have h1 := bp7 cs 0 j c hR.2 hcj
  rw [Nat.zero_add] at h1
  obtain ⟨c1, k1, k2, k3⟩ := hout.get j c0 hc0
  rw [hcj] at k1; simp only [Option.some.injEq] at k1; subst k1
  rw [h1]
  show cs0[j]? = _
  rw [hc0]
  cases c0
  simp only at k2 k3
  simp only [Option.map_some, ← k2, ← k3]
 ·rw [wrL_get us cs0 s x (hlen.2.trans hout.length) hd, hj]
 ·rw [hR.1, hy]
  obtain ⟨e1, e2, e3, e4⟩ := wrL_rest us cs0 s
  have : ({ s with heap := (s.wrL us cs0).heap } : St) = s.wrL us cs0 := by
   cases h : s.wrL us cs0
   rw [h] at e1 e2 e3 e4
   simp only at e1 e2 e3 e4
   subst e1; subst e2; subst e3; subst e4
   rfl
  rw [this]
  exact hp
end
def omrow {α β : Type} (K : Kc α) (E : Kc β) : Option (List (α × β)) → List (List V)
 | none => []
 | some m => [mrow K E m]
theorem at1 {α β : Type} (K : Kc α) (E : Kc β) (g : Nat → Option Nat) : ∀ o : Option (List (α × β)), rnR g (omrow K E o) = omrow K E o
 | none => rfl
 | some m => by simp [omrow, rnR, mrow_rn]
theorem bf1 {α β : Type} (K : Kc α) (E : Kc β) (g : Nat → Option Nat) (m : List (α × β)) : rnR g [mrow K E m] = [mrow K E m] := at1 K E g (some m)
theorem al6 {α β : Type} (K : Kc α) (E : Kc β) (n : Nat) : ∀ o : Option (List (α × β)), ∀ row ∈ omrow K E o, RowOk n row
 | none => fun _ h => by cases h
 | some m => ab9 (ai3 K E n m)
section
variable {s s' : St}
def St.nilcellM : St → Nat → Nat → List V → List V → St
 | ⟨env, heap, nx, n, lv⟩, u, rsz, pre, suf => ⟨env, (u, ⟨rsz, [pre ++ .mp nx 0 :: suf]⟩) :: (nx, ⟨0, []⟩) :: heap, nx + 1, n, lv⟩
theorem rep_nilm {C : Ctx} {w : World} {v : Value} (h : Rep C w v .nilm) : Rep (C.set C.nx ⟨none, 0, 0, 0⟩ (C.nx + 1)) w v (.mp C.nx 0) := by
 cases h
 refine .mp (Nat.lt_succ_self _) fun L hL => ?_
 simp only [Ctx.set, if_pos] at hL
 simp only [Option.some.injEq] at hL
 subst hL
 exact ⟨Nat.le_refl _, fun _ => .inl ⟨rfl, rfl⟩⟩
theorem le_nilcellM (u : Nat) {rsz : Nat} {pre suf row : List V} (hu : hget s.heap u = some ⟨rsz, [row]⟩) (hr : row = pre ++ .nilm :: suf) (hs' : s.nilcellM u rsz pre suf = s') : Le s s' := fun C w a hs => by
 subst hs'; subst hr
 obtain ⟨h1, h2, h3⟩ := bi4 hs.heap 0
 cases s with
 | mk env heap nx n lv =>
  have hnx : C.nx = nx := hs.nx
  subst hnx
  refine ⟨_, ⟨hs.defers, hs.size, rfl, fun j => (hs.env j).mono h2, ?_, hs.lv⟩, h3⟩
  have hlt : u < C.nx := by obtain ⟨L, e1, _⟩ := hs.heap.ent _ _ hu; exact hs.heap.lt u L e1
  refine ⟨fun x hx => ?_, fun x hb hx => ?_, h1.lt, h1.inj, h1.own, h1.regs, h1.lvs, h1.rdis, h1.zero, h1.two, ⟨fun x hb M hx hM => ?_, h1.sub.s0, h1.sub.nd, h1.sub.lt, h1.sub.root, h1.sub.dis, h1.sub.reg⟩, h1.tab⟩
  ·simp only [St.nilcellM, hget] at hx
   rw [Bool.cond_eq_ite] at hx
   split at hx
   ·cases hx
   ·exact h1.dom x hx
  ·simp only [St.nilcellM, hget] at hx
   rw [Bool.cond_eq_ite] at hx
   split at hx
   ·rename_i he
    rw [Nat.beq_eq] at he
    subst he
    simp only [Option.some.injEq] at hx
    subst hx
    have hu1 : hget ((C.nx, ⟨0, []⟩) :: heap) x = some ⟨rsz, [pre ++ .nilm :: suf]⟩ := by
     simp only [hget]
     rw [Bool.cond_eq_ite, if_neg (by simp; omega)]
     exact hu
    obtain ⟨L, e1, e2, e3, e4⟩ := h1.ent _ _ hu1
    refine ⟨L, e1, e2, e3, ?_⟩
    obtain ⟨L0, f1, f2, f3, f4⟩ := hs.heap.ent _ _ hu
    have eL : L = L0 := by
     have : (C.set C.nx ⟨none, 0, 0, 0⟩ (C.nx + 1)).loc x = C.loc x := by simp only [Ctx.set]; rw [if_neg (by omega)]
     rw [this, f1] at e1; simpa using e1.symm
    subst eL
    have key : ∀ {vs : List Value} {pre : List V}, RepL C w vs (pre ++ .nilm :: suf) → RepL (C.set C.nx ⟨none, 0, 0, 0⟩ (C.nx + 1)) w vs (pre ++ .mp C.nx 0 :: suf) := by
     intro vs pre
     induction pre generalizing vs with
     | nil => intro h; cases h with | cons h t => exact .cons (rep_nilm h) (RepL.mono h2 t)
     | cons x pre ih => intro h; cases h with | cons h t => exact .cons (h.mono h2) (ih t)
    refine Blk.imp (rows := [pre ++ .nilm :: suf]) (by simp) (fun e => by simp at e) (fun _ _ => rfl) (fun b hn h => ?_) (fun ents he => ?_) f4
    ·obtain ⟨vals, g5⟩ := h
     refine ⟨vals, fun i row hi => ?_⟩
     cases i with
     | succ i => simp at hi
     | zero =>
      simp at hi; subst hi
      obtain ⟨q1, q2, q3⟩ := g5 0 _ rfl
      exact ⟨q1, q2, key q3⟩
    ·simp only [List.cons.injEq, and_true] at he
     subst he
     exact ⟨_, rfl, fun vs hv => key hv⟩
   ·exact h1.ent x hb hx
  ·simp only [St.nilcellM, hget] at hx
   rw [Bool.cond_eq_ite] at hx
   split at hx
   ·rename_i he
    rw [Nat.beq_eq] at he
    subst he
    simp only [Option.some.injEq] at hx
    subst hx
    have hu1 : hget ((C.nx, ⟨0, []⟩) :: heap) x = some ⟨rsz, [pre ++ .nilm :: suf]⟩ := by
     simp only [hget]
     rw [Bool.cond_eq_ite, if_neg (by simp; omega)]
     exact hu
    exact bh4 rfl rfl (h1.sub.dp x _ M hu1 hM)
   ·exact h1.sub.dp x hb M hx hM
def St.mvmap : St → Nat → Nat → Nat → Nat → List V → List V → List V → St
 | ⟨env, heap, nx, n, lv⟩, u, a, b, rsz, pre, suf, r => ⟨env, (u, ⟨rsz, [pre ++ .mp b 1 :: suf]⟩) :: (b, ⟨0, [r]⟩) :: hdel a heap, nx, n, lv⟩
theorem le_mvmap (u a b : Nat) {rsz : Nat} {pre suf row r : List V} (hu : hget s.heap u = some ⟨rsz, [row]⟩) (hr : row = pre ++ .mp a 1 :: suf) (ha : hget s.heap a = some ⟨0, [r]⟩) (hb : hget s.heap b = some ⟨0, []⟩)
  (hne : (!Nat.beq a b && !Nat.beq u a && !Nat.beq u b) = true) (hs' : s.mvmap u a b rsz pre suf r = s') : Le s s' := fun C w ac hs => by
 subst hs'; subst hr
 simp only [Bool.and_eq_true, Bool.not_eq_true', ← Bool.not_eq_true, Nat.beq_eq] at hne
 obtain ⟨⟨nab, nua⟩, nub⟩ := hne
 have H := hs.heap
 obtain ⟨La, a1, a2, a3, a4⟩ := H.ent _ _ ha
 obtain ⟨Lb, b1, b2, b3, b4⟩ := H.ent _ _ hb
 have a2' : La.sz = 0 := a2
 have a3' : La.n = 1 := a3
 have b3' : Lb.n = 0 := b3
 have sa : C.sub a = [] := by
  have := H.sub.dp a _ La ha a1
  unfold Deep at this
  split at this
  ·exact this
  ·exact this.1 a2'
 have sb : C.sub b = [] := by
  have := H.sub.dp b _ Lb hb b1
  unfold Deep at this
  split at this
  ·exact this
  ·exact this.1 b2
 let C' : Ctx := { C with loc := fun x => if x = a then none else if x = b then C.loc a else C.loc x }
 have hloc : ∀ {x L}, C'.loc x = some L → x ≠ a ∧ ((x = b ∧ L = La) ∨ (x ≠ b ∧ C.loc x = some L)) := fun {x L} h => by
  simp only [C'] at h
  split at h
  ·cases h
  ·rename_i hxa
   split at h
   ·rename_i hxb; rw [a1] at h; exact ⟨hxa, .inl ⟨hxb, (Option.some.inj h).symm⟩⟩
   ·rename_i hxb; exact ⟨hxa, .inr ⟨hxb, h⟩⟩
 have hpi : ∀ {x L}, C'.loc x = some L → ∃ y, C.loc y = some L ∧ (x = b ∧ y = a ∨ x ≠ b ∧ y = x ∧ x ≠ a) := fun {x L} h => by
  obtain ⟨h1, ⟨h2, h3⟩ | ⟨h2, h3⟩⟩ := hloc h
  ·subst h3; exact ⟨a, a1, .inl ⟨h2, rfl⟩⟩
  ·exact ⟨x, h3, .inr ⟨h2, rfl, h1⟩⟩
 have E : Ext C C' w w := by
  refine ⟨Nat.le_refl _, fun x L' _ h => ?_, fun _ _ h => h, fun _ _ _ _ h => ⟨h, rfl⟩⟩
  obtain ⟨_, ⟨h2, h3⟩ | ⟨_, h3⟩⟩ := hloc h
  ·subst h2; subst h3; exact ⟨Lb, b1, .inr (by omega)⟩
  ·exact ⟨L', h3, .inl rfl⟩
 have F : Fr C C' w w := by
  refine ⟨Nat.le_refl _, fun _ _ _ => rfl, fun c h => ?_, fun _ h => h, fun _ h => .inl h, rfl, rfl, fun x hx L' h => E.loc x L' (by have := H.two; show x < C.nx; omega) h⟩
  rcases h with ⟨x, L, h1, h2⟩ | ⟨l, h⟩ | ⟨x, h⟩
  ·obtain ⟨y, h3, _⟩ := hpi h1; exact .inl (.inl ⟨y, L, h3, h2⟩)
  ·exact .inl (.inr (.inl ⟨l, h⟩))
  ·exact .inl (.inr (.inr ⟨x, h⟩))
 have hcell : ∀ {v : Value}, Rep C w v (.mp a 1) → Rep C' w v (.mp b 1) := fun {v} h => by
  cases h with
  | mp h1 h2 =>
   refine .mp (H.lt b Lb b1) fun L hL => ?_
   obtain ⟨_, ⟨_, h3⟩ | ⟨h3, _⟩⟩ := hloc hL
   ·subst h3; exact h2 _ a1
   ·exact absurd rfl h3
 cases s with
 | mk env heap nx n lv =>
  have hget' : ∀ x, hget ((u, ⟨rsz, [pre ++ .mp b 1 :: suf]⟩) :: (b, ⟨0, [r]⟩) :: hdel a heap) x = if x = u then some ⟨rsz, [pre ++ .mp b 1 :: suf]⟩ else if x = b then some ⟨0, [r]⟩ else if x = a then none else hget heap x := fun x => by
   simp only [hget, Bool.cond_eq_ite, ah4, Nat.beq_eq]
  refine ⟨C', ⟨hs.defers, hs.size, hs.nx, fun j => (hs.env j).mono E, ?_, hs.lv⟩, F⟩
  show HSt C' w ((u, ⟨rsz, [pre ++ .mp b 1 :: suf]⟩) :: (b, ⟨0, [r]⟩) :: hdel a heap)
  refine ⟨fun x hx => ?_, fun x hbx hx => ?_, fun x L hL => ?_, fun x x' L L' c h1 h2 h3 h4 => ?_, fun x L c l h1 h2 h3 h4 => ?_, H.regs, H.lvs, H.rdis, H.zero, H.two, ⟨fun x hbx M hx hM => ?_, fun x hx => ?_, H.sub.nd, H.sub.lt, fun x c x' L h1 h2 h3 => ?_, H.sub.dis, H.sub.reg⟩, H.tabE E H.zero.1⟩
  ·rw [hget'] at hx
   split at hx
   ·cases hx
   ·split at hx
    ·cases hx
    ·rename_i hxb
     split at hx
     ·rename_i hxa; simp [C', hxa]
     ·rename_i hxa; simp [C', hxa, hxb, H.dom x hx]
  ·rw [hget'] at hx
   split at hx
   ·rename_i hxu
    subst hxu
    simp only [Option.some.injEq] at hx
    subst hx
    obtain ⟨L, f1, f2, f3, f4⟩ := H.ent _ _ hu
    refine ⟨L, by simp [C', nua, nub, f1], f2, f3, ?_⟩
    have key : ∀ {vs : List Value} {pre : List V}, RepL C w vs (pre ++ .mp a 1 :: suf) → RepL C' w vs (pre ++ .mp b 1 :: suf) := by
     intro vs pre
     induction pre generalizing vs with
     | nil => intro h; cases h with | cons h t => exact .cons (hcell h) (RepL.mono E t)
     | cons x pre ih => intro h; cases h with | cons h t => exact .cons (h.mono E) (ih t)
    refine Blk.imp (rows := [pre ++ .mp a 1 :: suf]) (by simp) (fun e => by simp at e) (fun _ _ => rfl) (fun b hn h => ?_) (fun ents he => ?_) f4
    ·obtain ⟨vals, g5⟩ := h
     refine ⟨vals, fun i row hi => ?_⟩
     cases i with
     | succ i => simp at hi
     | zero =>
      simp at hi; subst hi
      obtain ⟨q1, q2, q3⟩ := g5 0 _ rfl
      exact ⟨q1, q2, key q3⟩
    ·simp only [List.cons.injEq, and_true] at he
     subst he
     exact ⟨_, rfl, fun vs hv => key hv⟩
   ·rename_i hxu
    split at hx
    ·rename_i hxb
     subst hxb
     simp only [Option.some.injEq] at hx
     subst hx
     exact ⟨La, by simp [C', Ne.symm nab, a1], a2, a3, a4.mono E (fun _ _ => rfl)⟩
    ·rename_i hxb
     split at hx
     ·cases hx
     ·rename_i hxa
      obtain ⟨L, g1, g2, g3, g4⟩ := H.ent x hbx hx
      exact ⟨L, by simp [C', hxa, hxb, g1], g2, g3, g4.mono E (fun _ _ => rfl)⟩
  ·obtain ⟨_, ⟨h2, _⟩ | ⟨_, h3⟩⟩ := hloc hL
   ·subst h2; exact H.lt _ Lb b1
   ·exact H.lt x L h3
  ·obtain ⟨y, g1, g2⟩ := hpi h1
   obtain ⟨y', g3, g4⟩ := hpi h2
   have := H.inj y y' L L' c g1 g3 h3 h4
   rcases g2 with ⟨e1, e2⟩ | ⟨e1, e2, e3⟩ <;> rcases g4 with ⟨e4, e5⟩ | ⟨e4, e5, e6⟩ <;> omega
  ·obtain ⟨y, g1, _⟩ := hpi h1
   exact H.own y L c l g1 h2 h3 h4
  ·rw [hget'] at hx
   split at hx
   ·rename_i hxu
    subst hxu
    simp only [Option.some.injEq] at hx
    subst hx
    have hM' : C.loc x = some M := by
     obtain ⟨_, ⟨h2, _⟩ | ⟨_, h3⟩⟩ := hloc hM
     ·exact absurd h2 nub
     ·exact h3
    exact bh4 rfl rfl (H.sub.dp x _ M hu hM')
   ·split at hx
    ·rename_i hxb
     subst hxb
     simp only [Option.some.injEq] at hx
     subst hx
     obtain ⟨_, ⟨_, h3⟩ | ⟨h3, _⟩⟩ := hloc hM
     ·subst h3
      show Deep w M (C.sub x) _
      rw [sb]
      have := H.sub.dp a _ M ha a1
      rw [sa] at this
      unfold Deep at this ⊢
      exact this
     ·exact absurd rfl h3
    ·rename_i hxb
     split at hx
     ·cases hx
     ·obtain ⟨_, ⟨h2, _⟩ | ⟨_, h3⟩⟩ := hloc hM
      ·exact absurd h2 hxb
      ·exact H.sub.dp x hbx M hx h3
  ·show C.sub x = []
   by_cases hxa : x = a
   ·rw [hxa]; exact sa
   ·by_cases hxb : x = b
    ·rw [hxb]; exact sb
    ·simp only [C', hxa, hxb, if_false] at hx
     exact H.sub.s0 x hx
  ·obtain ⟨y, g1, _⟩ := hpi h2
   exact H.sub.root x c y L h1 g1 h3
def mapTy (T : List TI) (t : Nat) : Bool := match T[t]? with
 | some ti => (match ti.kind with
  | .map _ _ => true
  | _ => false)
 | none => false
theorem mapTy_spec {P : Program} {T : List TI} {t : Nat} (hT : TabOK P T) (h : mapTy T t = true) : ∃ k e, P.underlying t = some (.map k e) := by
 unfold mapTy at h
 split at h
 ·rename_i ti ht
  split at h
  ·rename_i k e hk
   exact ⟨k, e, hT.map ht hk⟩
  ·cases h
 ·cases h
theorem be2 {P : Program} {t k e : Nat} (hu : P.underlying t = some (.map k e)) (w : World) (n : Nat) : (Op.equalIn (n + 1) t (.map none) (.map none)).run P w = .ok true w := by
 simp only [Op.equalIn, Sem.run_bind, run_underlying hu, Result.andThen_ok, Sem.run_pure]
 rfl
theorem bn3 {P : Program} {t k e : Nat} (hu : P.underlying t = some (.map k e)) (w : World) : (Op.equal t (.map none) (.map none)).run P w = .ok true w := be2 hu w 9999
theorem bc0 {P : Program} {t k e b : Nat} (hu : P.underlying t = some (.map k e)) (w : World) (n : Nat) : (Op.equalIn (n + 1) t (.map (some b)) (.map none)).run P w = .ok false w := by
 simp only [Op.equalIn, Sem.run_bind, run_underlying hu, Result.andThen_ok, Sem.run_pure]
theorem bl5 {P : Program} {t k e b : Nat} (hu : P.underlying t = some (.map k e)) (w : World) : (Op.equal t (.map (some b)) (.map none)).run P w = .ok false w := bc0 hu w 9999
theorem ov_mnil {P : Program} {T : List TI} {α β : Type} {K : Kc α} {E : Kc β} {t t' u : Nat} {x y : Operand} {o : Option (List (α × β))} [Decidable (o = none)] (hT : TabOK P T) (ht : mapTy T t = true) (hx : ev s x = .mp u (omrow K E o).length) (hu : hget s.heap u = some ⟨0, omrow K E o⟩) (hy : ev s y = .nilm) :
  OpVal P s (.binOp .eql t x y t') (.bool (decide (o = none))) := fun C w ac hs d ty pos af gu => by
 have hv := hs.ev x; rw [hx] at hv
 have hv2 := hs.ev y; rw [hy] at hv2
 generalize e1 : ac.eval x = v at hv
 generalize e2 : ac.eval y = v2 at hv2
 cases hv2
 obtain ⟨k, e, hk⟩ := mapTy_spec hT ht
 obtain ⟨L, h1, h2, h3, h4⟩ := hs.heap.ent _ _ hu
 cases hv with
 | mp g1 g2 =>
  refine ⟨_, fun w' _ => ?_, .bool _⟩
  rcases (g2 L h1).2 (by rw [h3]) with ⟨k0, rfl⟩ | ⟨k1, b, _, _, rfl⟩
  ·have : o = none := by cases o with | none => rfl | some m => simp [omrow] at k0
   subst this
   simp [execOp, e1, e2, eqGuard, binOp, bn3 hk]
  ·have : ¬ o = none := by cases o with | none => simp [omrow] at k1 | some m => simp
   simp [execOp, e1, e2, eqGuard, binOp, bl5 hk, this]
end
end Go.Abs

namespace Go.Abs
def alg : List (Nat × Nat) → Nat → Option Nat
 | [], _ => none
 | (a, b) :: r, u => bif Nat.beq u a then some b else alg r u
def swp (al : List (Nat × Nat)) : List (Nat × Nat) := al.map fun p => (p.2, p.1)
theorem bq3 : ∀ {al : List (Nat × Nat)} {u j : Nat}, alg al u = some j → (u, j) ∈ al
 | (a, b) :: r, u, j, h => by
  simp only [alg, Bool.cond_eq_ite] at h
  split at h
  ·rename_i e; rw [Nat.beq_eq] at e; simp only [Option.some.injEq] at h; subst e; subst h; simp
  ·exact List.mem_cons_of_mem _ (bq3 h)
def oeq : Option Nat → Nat → Bool
 | some a, b => Nat.beq a b
 | none, _ => false
theorem oeq_spec {o : Option Nat} {b : Nat} (h : oeq o b = true) : o = some b := by
 cases o with
 | none => simp [oeq] at h
 | some a => simp [oeq] at h; rw [h]
def alOK (al : List (Nat × Nat)) : Bool := al.all fun p => oeq (alg (swp al) p.2) p.1 && oeq (alg al p.1) p.2 && (Nat.ble 8 p.2 || Nat.beq p.1 p.2)
structure AlOK (al : List (Nat × Nat)) : Prop where
 gi : ∀ u j, alg al u = some j → alg (swp al) j = some u
 ig : ∀ u j, alg (swp al) j = some u → alg al u = some j
 low : ∀ u j, j < 8 → alg (swp al) j = some u → u = j
theorem alOK_spec {al : List (Nat × Nat)} (h : alOK al = true) : AlOK al := by
 have key : ∀ u j, (u, j) ∈ al → alg (swp al) j = some u ∧ alg al u = some j ∧ (8 ≤ j ∨ u = j) := fun u j hm => by
  have h1 := List.all_eq_true.1 h (u, j) hm
  simp only [Bool.and_eq_true, Bool.or_eq_true, Nat.ble_eq, Nat.beq_eq] at h1
  exact ⟨oeq_spec h1.1.1, oeq_spec h1.1.2, h1.2⟩
 have back : ∀ u j, alg (swp al) j = some u → (u, j) ∈ al := fun u j h => by
  have := bq3 h
  unfold swp at this
  obtain ⟨p, hp, he⟩ := List.mem_map.1 this
  simp only [Prod.mk.injEq] at he
  obtain ⟨rfl, rfl⟩ := he
  exact hp
 refine ⟨fun u j h => (key u j (bq3 h)).1, fun u j h => (key u j (back u j h)).2.1, fun u j hj h => ?_⟩
 rcases (key u j (back u j h)).2.2 with h | h
 ·omega
 ·exact h
def EnvRn (s : St) (g : Nat → Option Nat) : List (Nat × V) → Prop
 | [] => True
 | p :: r => (eget s.env p.1).rn g = p.2 ∧ EnvRn s g r
def HeapRn (s : St) (al : List (Nat × Nat)) (n : Nat) : List (Nat × HB) → Prop
 | [] => True
 | p :: r => (p.1 < n ∧ ∃ u rows, alg (swp al) p.1 = some u ∧ hget s.heap u = some ⟨p.2.sz, rows⟩ ∧ rnR (alg al) rows = p.2.rows) ∧ HeapRn s al n r
theorem envRn_get {s : St} {g : Nat → Option Nat} : ∀ {l : List (Nat × V)}, EnvRn s g l → ∀ i, eget l i = .junk ∨ (eget s.env i).rn g = eget l i
 | [], _, _ => .inl rfl
 | (j, x) :: r, h, i => by
  simp only [eget, Bool.cond_eq_ite]
  split
  ·rename_i e; rw [Nat.beq_eq] at e; subst e; exact .inr h.1
  ·exact envRn_get h.2 i
theorem av2 {s : St} {al : List (Nat × Nat)} {n : Nat} : ∀ {l : List (Nat × HB)}, HeapRn s al n l → ∀ j hb, hget l j = some hb → j < n ∧ ∃ u rows, alg (swp al) j = some u ∧ hget s.heap u = some ⟨hb.sz, rows⟩ ∧ rnR (alg al) rows = hb.rows
 | [], _, _, _, h => by cases h
 | (k, x) :: r, h, j, hb, hj => by
  simp only [hget, Bool.cond_eq_ite] at hj
  split at hj
  ·rename_i e; rw [Nat.beq_eq] at e; subst e; simp only [Option.some.injEq] at hj; subst hj; exact h.1
  ·exact av2 h.2 j hb hj
def Ctx.ren (C : Ctx) (al : List (Nat × Nat)) (h : List (Nat × HB)) (n : Nat) : Ctx :=
 {reg := fun l b => l ≤ 1 ∧ C.reg l b, lv := fun l => l ≤ 1, loc := fun j => if (hget h j).isSome then (alg (swp al) j).bind C.loc else none, nx := n,
  sub := fun j => if (hget h j).isSome then (match alg (swp al) j with | some u => C.sub u | none => []) else [] }
section
variable {s : St} {al : List (Nat × Nat)} {env' : List (Nat × V)} {h' : List (Nat × HB)} {nx' : Nat}
theorem at4 {C : Ctx} {n j : Nat} {L : Loc} (h : (C.ren al h' n).loc j = some L) : ∃ u, alg (swp al) j = some u ∧ C.loc u = some L ∧ (hget h' j).isSome = true := by
 simp only [Ctx.ren] at h
 split at h
 ·rename_i hi
  cases hu : alg (swp al) j with
  | none => simp [hu] at h
  | some u => simp [hu] at h; exact ⟨u, rfl, h, hi⟩
 ·cases h
theorem bb8 {C : Ctx} {n j b : Nat} (h : b ∈ (C.ren al h' n).sub j) : ∃ u, alg (swp al) j = some u ∧ b ∈ C.sub u := by
 simp only [Ctx.ren] at h
 split at h
 ·split at h
  ·rename_i u hu; exact ⟨u, hu, h⟩
  ·cases h
 ·cases h
theorem le_rn {n' : Nat} (al : List (Nat × Nat)) (hal : alOK al = true) (hnx : (al.all fun p => Nat.blt p.2 nx') = true) (he : EnvRn s (alg al) env') (hh : HeapRn s al nx' h') (hn : Nat.blt 7 nx' = true) (hs' : s.n = n') : Le s ⟨env', h', nx', n', []⟩ := fun C w a hs => by
 subst hs'
 obtain ⟨gi, ig, low⟩ := alOK_spec hal
 have H := hs.heap
 have hn' : 7 < nx' := by have := Nat.le_of_ble_eq_true hn; omega
 have R : Rn (alg al) C (C.ren al h' nx') w w := by
  refine ⟨⟨fun l _ => ?_, fun l _ h => ?_, fun l b _ h hb => ⟨?_, rfl⟩⟩, fun u j hj _ => ⟨?_, fun L' hL' => ⟨L', ?_, .inl rfl⟩⟩⟩
  ·rcases aj5 l with ⟨h, e⟩ | ⟨h, e⟩ <;> rw [e] <;> show _ < nx' <;> omega
  ·have h1 : cut2 l ≤ 1 := h
   rcases aj5 l with ⟨h1, e⟩ | ⟨h1, e⟩
   ·exact bj2 H h1
   ·omega
  ·have h1 : cut2 l ≤ 1 := h
   rcases aj5 l with ⟨h1, e⟩ | ⟨h1, e⟩
   ·rw [e]; exact ⟨h1, hb⟩
   ·omega
  ·have := List.all_eq_true.1 hnx (u, j) (bq3 hj)
   exact Nat.le_of_ble_eq_true this
  ·obtain ⟨u', h1, h2, _⟩ := at4 hL'
   rw [gi u j hj] at h1
   rw [Option.some.inj h1]
   exact h2
 have hpi : ∀ {j j' u}, alg (swp al) j = some u → alg (swp al) j' = some u → j = j' := fun {j j' u} h1 h2 => by
  have e1 := ig _ _ h1
  have e2 := ig _ _ h2
  rw [e1] at e2
  exact Option.some.inj e2
 refine ⟨C.ren al h' nx', ⟨hs.defers, hs.size, rfl, fun i => ?_, ⟨fun j hj => ?_, fun j hb' hj => ?_, fun j L hj => ?_, fun j j' L L' b h1 h2 h3 h4 => ?_, fun j L b l h1 h2 h3 h4 => ?_, fun l b h1 h2 => ?_, fun l h => ?_, fun l l' b h1 h2 h3 h4 => ?_, ⟨Nat.zero_le _, Nat.le_refl _, by show ¬ 2 ≤ 1; omega⟩, hn',
  ⟨fun j hb' L hj hl => ?_, fun j hl => ?_, fun j => ?_, fun j b hb => ?_, fun j b j' L hb h1 h2 => ?_, fun j j' b hb hb' => ?_, fun j b l hb h1 h2 => ?_⟩, fun b hb => ⟨⟨Nat.zero_le _, (H.tab b hb).1⟩, (H.tab b hb).2⟩⟩, fun l hl => by cases hl⟩, ?_⟩
 ·rcases envRn_get he i with h | h
  ·rw [h]; exact .junk _
  ·rw [← h]; exact Rep.rn R (hs.env i)
 ·simp only [Ctx.ren]
  rw [if_neg (by show ¬ (hget h' j).isSome = true; rw [hj]; simp)]
 ·obtain ⟨_, u, rows, g1, g2, g3⟩ := av2 hh j hb' hj
  obtain ⟨L, e1, e2, e3, e4⟩ := H.ent u _ g2
  have hj' : (hget h' j).isSome = true := by rw [hj]; rfl
  refine ⟨L, by simp [Ctx.ren, hj', g1, e1], e2, by rw [e3, ← g3]; simp [rnR], ?_⟩
  rw [← g3]
  exact bu2 R (fun _ _ => rfl) e4
 ·obtain ⟨u, h1, h2, h3⟩ := at4 hj
  obtain ⟨hb, hbe⟩ := Option.isSome_iff_exists.1 h3
  exact (av2 hh j hb hbe).1
 ·obtain ⟨u, g1, g2, _⟩ := at4 h1
  obtain ⟨u', g3, g4, _⟩ := at4 h2
  have := H.inj u u' L L' b g2 g4 h3 h4
  subst this
  exact hpi g1 g3
 ·obtain ⟨u, g1, g2, _⟩ := at4 h1
  exact H.own u L b l g2 h2 (bj2 H h3) h4.2
 ·exact H.regs l b (bj2 H h1) h2.2
 ·have h' : l ≤ 1 := h
  show l < nx'
  omega
 ·exact H.rdis l l' b (bj2 H h3.1) (bj2 H h4.1) h3.2 h4.2
 ·obtain ⟨u, g1, g2, g3⟩ := at4 hl
  obtain ⟨_, u', rows, k1, k2, k3⟩ := av2 hh j hb' hj
  rw [g1] at k1; simp only [Option.some.injEq] at k1; subst k1
  have : (C.ren al h' nx').sub j = C.sub u := by simp only [Ctx.ren, g3, if_true, g1]
  rw [this, ← k3]
  exact (H.sub.dp u _ L k2 g2).rn _
 ·simp only [Ctx.ren] at hl ⊢
  split at hl
  ·rename_i hi
   rw [if_pos hi]
   cases hu : alg (swp al) j with
   | none => rfl
   | some u => rw [hu] at hl; exact H.sub.s0 u hl
  ·rename_i hi; rw [if_neg hi]
 ·simp only [Ctx.ren]
  split
  ·split
   ·exact H.sub.nd _
   ·exact .nil
  ·exact .nil
 ·obtain ⟨u, _, h2⟩ := bb8 hb
  exact H.sub.lt u b h2
 ·obtain ⟨u, _, k2⟩ := bb8 hb
  obtain ⟨u', _, k4, _⟩ := at4 h1
  exact H.sub.root u b u' L k2 k4 h2
 ·obtain ⟨u, k1, k2⟩ := bb8 hb
  obtain ⟨u', k3, k4⟩ := bb8 hb'
  have := H.sub.dis u u' b k2 k4
  subst this
  exact hpi k1 k3
 ·obtain ⟨u, _, k2⟩ := bb8 hb
  exact H.sub.reg u b l k2 (bj2 H h1) h2.2
 ·refine ⟨Nat.le_refl _, fun _ _ _ => rfl, fun b hb => ?_, fun b hb => hb.2, fun b hb => .inl hb.2, rfl, rfl, fun j hj L' h => ?_⟩
  ·rcases hb with ⟨j, L, h1, h2⟩ | ⟨l, h1, h2, _⟩ | ⟨j, h1⟩
   ·obtain ⟨u, _, g2, _⟩ := at4 h1
    exact .inl (.inl ⟨u, L, g2, h2⟩)
   ·have : l ≤ 1 := h2
    omega
   ·obtain ⟨u, _, g2⟩ := bb8 h1
    exact .inl (.inr (.inr ⟨u, g2⟩))
  ·obtain ⟨u, g1, g2, _⟩ := at4 h
   have := low u j hj g1
   subst this
   exact ⟨L', g2, .inl rfl⟩
theorem er_nil {g : Nat → Option Nat} : EnvRn s g [] := trivial
theorem al0 {g : Nat → Option Nat} {i : Nat} {x y : V} {l : List (Nat × V)} (h : eget s.env i = y) (hr : y.rn g = x) (t : EnvRn s g l) : EnvRn s g ((i, x) :: l) := ⟨by rw [← hr, ← h], t⟩
theorem hr_nil {n : Nat} : HeapRn s al n [] := trivial
theorem ah1 {n j u sz : Nat} {rows rows' : List (List V)} {l : List (Nat × HB)} (hu : alg (swp al) j = some u) (h : hget s.heap u = some ⟨sz, rows⟩) (hj : Nat.blt j n = true) (hr : rnR (alg al) rows = rows') (t : HeapRn s al n l) : HeapRn s al n ((j, ⟨sz, rows'⟩) :: l) :=
 ⟨⟨Nat.le_of_ble_eq_true hj, u, rows, hu, h, hr⟩, t⟩
theorem am7 {g : Nat → Option Nat} {row row' : List V} (h : V.rnL g row = row') : rnR g [row] = [row'] := by simp [rnR, h]
theorem ite_some {α : Type} {p : Prop} [Decidable p] {a b : Option α} {q : α} (h : (if p then a else b) = some q) : (p ∧ a = some q) ∨ (¬p ∧ b = some q) := by
 by_cases hp : p
 ·rw [if_pos hp] at h; exact .inl ⟨hp, h⟩
 ·rw [if_neg hp] at h; exact .inr ⟨hp, h⟩
theorem ops_kT {P : Program} {ops : Array Oper} {l : List Oper} {K : St → Prop} {g : Nat} {b : Bool} (hc : b = true) (hv : eget s.env g = .bool b) (h : AOps P ops l (s.ovr g (.bool true)) K) : AOps P ops l s K := fun C w a Q hs hg => h C w a Q (ar0 hs (by rw [hv, hc])) hg
theorem ops_kF {P : Program} {ops : Array Oper} {l : List Oper} {K : St → Prop} {g : Nat} {b : Bool} (hc : b = false) (hv : eget s.env g = .bool b) (h : AOps P ops l (s.ovr g (.bool false)) K) : AOps P ops l s K := fun C w a Q hs hg => h C w a Q (ar0 hs (by rw [hv, hc])) hg
theorem rn_agg {g : Nat → Option Nat} {xs ys : List V} (h : V.rnL g xs = ys) : V.rn g (.agg xs) = .agg ys := by simp only [V.rn, h]
theorem aj1 {g : Nat → Option Nat} {u j i n : Nat} (h : g u = some j) : V.rn g (.hsl u i n) = .hsl j i n := by simp [V.rn, h]
theorem rn_mp {g : Nat → Option Nat} {u j k : Nat} (h : g u = some j) : V.rn g (.mp u k) = .mp j k := by simp [V.rn, h]
theorem bl0 {g : Nat → Option Nat} {u j n i o : Nat} (h : g u = some j) : V.rn g (.ptr u n i o) = .ptr j n i o := by simp [V.rn, h]
end
end Go.Abs

namespace Go.Abs
section
variable {P : Program} {T : List TI} {s : St}
theorem src_hslX {u sz : Nat} {row : List V} {y : Operand} (hy : ev s y = .hsl u 0 1) (hu : hget s.heap u = some ⟨sz, [row]⟩) (hone : OneCs s row) : ∀ C w a, StRep C w a s → ∃ news, Src P C w sz [row] (a.eval y) news := fun C w a hs => by
 have hv := hs.ev y; rw [hy] at hv
 generalize a.eval y = v at hv
 obtain ⟨L, h1, h2, h3, h4, h5⟩ := ai8 hs.heap hv hu (by rfl)
 unfold HSL at h5
 cases hb : L.blk with
 | none =>
  unfold Blk at h4; rw [hb] at h4
  exact absurd h4.1 (by simp)
 | some b =>
  rw [hb] at h5; simp only at h5
  obtain ⟨cs, el, fz, g1, g2, g3, g4, vals, g5⟩ := an9 hb h5.1 h4
  rw [h5.2, Nat.zero_mul]
  have h2' : L.sz = sz := h2
  obtain ⟨k1, k2, k3⟩ := g5 0 row rfl
  rw [h2'] at k1
  have hlen : row.length = sz := by rw [← k3.length, k1]
  refine ⟨vals 0, fun w' => by simp [Builtin.lenOf], fun w' hw => ?_, by simp [k1], ⟨vals, fun i r hi => ?_⟩, fun u hu => bt7 hs k3 hone u hu, by unfold flatR; simp [bk2 hone]⟩
  ·refine run_firstCells_some w' sz 1 ⟨b, 0, none⟩ 1 _ (vals 0) (by simp [k1]) fun k v hk => ?_
   rw [aj3, Nat.zero_add]
   have := k2 k v hk
   simp only [Nat.zero_mul, Nat.zero_add] at this
   exact hw.cell this
  ·cases i with
   | succ i => simp at hi
   | zero =>
    simp at hi; subst hi
    exact ⟨k1, fun j v hj => by simpa using hj, k3⟩
section
variable {ops : Array Oper} {d : Option Nat} {ty : Nat} {pos : String} {af : Array Edge} {gu : Option (Nat × Bool)} {r : List Oper} {K : St → Prop} {s1 : St}
theorem sc_appendX {α : Type} (c : Cd α) {t tx e u uy l : Nat} {kd : TK} {sz bts : Nat} {z0 : List V} {ag : Bool} {x y : Operand} {xs : List α} {row : List V} (hb : (xs.length + 1) * bts ≤ 140737488355328) (hbts : Nat.beq bts 0 = false) (hT : TabOK P T) (hg : gd ops.toList s gu = some true) (ht : elemI T t = some (e, ⟨kd, sz, bts, z0, ag⟩)) (htx : notIntT T tx = true) (hz : Nat.beq z0.length sz = true) (hz0 : Nat.beq sz 0 = false)
  (hx : ev s x = .hsl u 0 xs.length) (hu : hget s.heap u = some ⟨sz, xs.map (c.enc l)⟩) (hy : ev s y = .hsl uy 0 1) (huy : hget s.heap uy = some ⟨sz, [row]⟩) (hone : OneCs s row)
  (hp : (s.wr u ⟨sz, xs.map (c.enc l) ++ [row]⟩).put d (.hsl u 0 (xs.length + 1)) = some s1) (h : AOps P ops r s1 K) :
  AOps P ops (⟨d, .call ⟨.builtin .append, ⟨[x, y]⟩, ⟨[t, tx]⟩⟩, ty, pos, af, gu⟩ :: r) s K := by
 have hb1 : 1 ≤ bts := by rcases Nat.eq_zero_or_pos bts with e | e; (simp [e] at hbts); exact e
 have hle : xs.length + 1 ≤ (xs.length + 1) * bts := Nat.le_mul_of_pos_right _ hb1
 refine s_append hT hg ht htx ⟨Nat.eq_of_beq_eq_true hz, fun e => by simp [e] at hz0⟩ hx hu (by simp) (src_hslX hy huy hone) ⟨by simpa using hb, by simp; omega⟩ ?_ h
 rw [← hp]
 simp
end
theorem at_app {rows : List (List V)} {row : List V} {n : Nat} (h : rows.length = n) : (rows ++ [row])[n]? = some row := by subst h; simp
theorem set_app {rows : List (List V)} {row row' : List V} {n : Nat} (h : rows.length = n) : (rows ++ [row]).set n row' = rows ++ [row'] := by subst h; simp
theorem app_row {α : Type} (c : Cd α) {l : Nat} (xs : List α) (x : α) : xs.map (c.enc l) ++ [c.row l x] = (xs ++ [x]).map (c.enc l) := by simp [c.eq]
theorem le_closeA (u v n m : Nat) {usz sz : Nat} {rows rs : List (List V)} (pre suf : List V) (hu : hget s.heap u = some ⟨usz, rows ++ [pre ++ .hsl v 0 n :: suf]⟩) (hm : rows.length = m) (hz : Nat.beq usz 0 = false) (hv : hget s.heap v = some ⟨sz, rs⟩) (hsz : Nat.beq sz 0 = false) (huv : Nat.beq u v = false) (hn : rs.length = n) (hdp : ∀ row ∈ rs, row.all dpV = true) {s' : St} (hs' : s.closed u v usz (rows ++ [pre ++ .psl 2 sz rs :: suf]) = s') : Le s s' :=
 al3 u v m n pre suf hu hz hv hsz huv hn (at_app hm) hdp (set_app hm) hs'
end
inductive PartsX (s : St) : List (Nat × Operand) → List (Nat × List V) → Prop
 | nil : PartsX s [] []
 | gen {i : Nat} {x : Operand} {cs : List V} {r : List (Nat × Operand)} {ps : List (Nat × List V)} (h : cellsV s (ev s x) = some cs) (t : PartsX s r ps) : PartsX s ((i, x) :: r) ((i, cs) :: ps)
 | one {i : Nat} {x : Operand} {y : V} {r : List (Nat × Operand)} {ps : List (Nat × List V)} (h : ev s x = y) (ho : OneC s y) (t : PartsX s r ps) : PartsX s ((i, x) :: r) ((i, [y]) :: ps)
section
variable {P : Program} {T : List TI} {s : St}
theorem bo6 {C : Ctx} {w : World} {a : Act} (hs : StRep C w a s) {place : Nat → Option (Nat × Nat)} : ∀ {parts : List (Nat × Operand)} {ps : List (Nat × List V)} {cells : Array Value} {zs cs : List V}, PartsX s parts ps → RepL C w cells.toList zs → vfill place zs ps = some cs →
  ∃ cells', Instr.fill place cells (parts.map fun p => (p.1, a.eval p.2)) = some cells' ∧ RepL C w cells'.toList cs
 | [], ps, cells, zs, cs, hp, hz, hf => by
  cases hp
  simp only [vfill, Option.some.injEq] at hf
  subst hf
  exact ⟨cells, rfl, hz⟩
 | (i, x) :: r, ps, cells, zs, cs, hp, hz, hf => by
  obtain ⟨xs, ps', rfl, h2, hx⟩ : ∃ xs ps', ps = (i, xs) :: ps' ∧ PartsX s r ps' ∧ RepL C w (a.eval x).cells.toList xs := by
   cases hp with
   | gen h t => exact ⟨_, _, rfl, t, am4 hs (hs.ev x) h⟩
   | @one _ _ y _ _ h ho t =>
    refine ⟨_, _, rfl, t, ?_⟩
    have hv := hs.ev x
    rw [h] at hv
    rw [(ho.1 C w a hs _ hv).1]
    exact .cons hv .nil
  simp only [vfill] at hf
  split at hf
  ·rename_i off size hpl
   rw [Bool.cond_eq_ite] at hf
   split at hf
   ·rename_i hc
    rw [Nat.beq_eq] at hc
    split at hf
    rotate_left
    ·simp at hf
    rename_i cells' hput
    obtain ⟨hput1, hput2⟩ := am5 hput
    subst hput1
    have hc := And.intro hc hput2
    have hxl := hx.length
    have hzl := hz.length
    simp only [Array.length_toList] at hxl hzl
    have hb : off + 0 + (a.eval x).cells.toList.length ≤ cells.size := by simp; omega
    have hset := ay6 (a.eval x).cells.toList 0 off cells hb
    have hnew : RepL C w ((a.eval x).cells.toList.zipIdx.foldl (fun a (p : Value × Nat) => a.setIfInBounds (off + p.2) p.1) cells).toList (zs.take off ++ xs ++ zs.drop (off + xs.length)) := by
     rw [hset]
     have hcl : (a.eval x).cells.toList.length = xs.length := by simpa using hxl
     rw [Nat.add_zero, hcl]
     exact ((hz.take off).append hx).append (hz.drop _)
    obtain ⟨cells', g1, g2⟩ := bo6 hs (parts := r) h2 hnew hf
    refine ⟨cells', ?_, g2⟩
    simp only [List.map_cons, Instr.fill, hpl]
    rw [if_neg (by simp; omega)]
    rw [← g1]
    congr 1
    rw [← Array.foldl_toList, Array.toList_zipIdx]
   ·simp at hf
  ·simp at hf
theorem ov_buildX {t : Nat} {parts : List (Nat × Operand)} {ps : List (Nat × List V)} {fs : List (Nat × Nat)} {size bytes : Nat} {z cs : List V} {ag : Bool} (hT : TabOK P T) (hok : fieldsOk T t = true) (ht : T[t]? = some ⟨.struct fs, size, bytes, z, ag⟩) (hz : z.isEmpty = false) (hps : PartsX s parts ps) (hcs : vfill (fieldPl T fs) z ps = some cs) : OpVal P s (.build t ⟨parts⟩) (.agg cs) := fun C w a hs d ty pos af gu => by
 obtain ⟨fields, hu, hmap⟩ := hT.struct ht rfl
 obtain ⟨zv, hz1, hz2⟩ := hT.zero ht (by intro e; simp at e; simp [e] at hz)
 have hok' : fs.all (fun p => (T[p.2]?).isSome) = true := by simpa [fieldsOk, ht] using hok
 have hrep := at5 C w zv.cells.toList
 rw [hz2] at hrep
 obtain ⟨places, _, hpl⟩ := as6 hT w fields fs hmap hok'
 obtain ⟨cells', g1, g2⟩ := bo6 hs (place := (places[·]?)) hps hrep (by
  have : (fun i => places[i]?) = fieldPl T fs := funext hpl
  rw [this]; exact hcs)
 refine ⟨.agg cells', fun w' _ => ?_, .agg (by simpa using g2)⟩
 obtain ⟨places', hp1', hpl'⟩ := as6 hT w' fields fs hmap hok'
 have heq : places' = places := Array.ext_getElem? fun i => by rw [hpl', hpl]
 subst heq
 have g1' : Instr.fill (fun i => places'[i]?) zv.cells (parts.map fun p => (p.1, a.eval p.2)) = some cells' := g1
 simp only [execOp, Instr.build, Sem.run_bind, hz1, Result.andThen_ok, run_underlying hu, hp1']
 simp [g1']
end
theorem upJa (j : Nat) (r : List Nat) (n : Nat) : upJ (j :: r) n j = some n := by simp [upJ, dn]
theorem beq_ne {a b : Nat} (h : a ≠ b) : Nat.beq a b = false := by
 cases e : Nat.beq a b with
 | false => rfl
 | true => exact absurd (Nat.eq_of_beq_eq_true e) h
theorem dst_ne {j : Nat} {r : List Nat} (hd : distinct (j :: r) = true) {k : Nat} (hk : k ∈ r) : Nat.beq k j = false := by
 simp only [distinct, Bool.and_eq_true, Bool.not_eq_true'] at hd
 refine beq_ne fun e => ?_
 subst e
 obtain ⟨i, hi⟩ := List.getElem?_of_mem hk
 exact ao5 hd.1 i hi
theorem dst_tl {j : Nat} {r : List Nat} (hd : distinct (j :: r) = true) : distinct r = true := by
 simp only [distinct, Bool.and_eq_true] at hd
 exact hd.2
theorem upJb {j k : Nat} {r : List Nat} (hd : distinct (j :: k :: r) = true) (n : Nat) : upJ (j :: k :: r) n k = some (n + 1) := by
 have h1 := dst_ne hd (k := k) (by simp)
 simp [upJ, dn, h1]
theorem upJc {j k l : Nat} {r : List Nat} (hd : distinct (j :: k :: l :: r) = true) (n : Nat) : upJ (j :: k :: l :: r) n l = some (n + 2) := by
 have h1 := dst_ne hd (k := l) (by simp)
 have h2 := dst_ne (dst_tl hd) (k := l) (by simp)
 simp [upJ, dn, h1, h2]
end Go.Abs

namespace Go.Abs
open Region
def onlyN (Q : Exit → Act → World → Prop) (N : Act → World → Prop) : Exit → Act → World → Prop
 | .normal, a, w => N a w
 | e, a, w => Q e a w
theorem wp_onlyN {P : Program} {o : Oper} {a : Act} {w : World} {K : Act → World → Prop} {Q : Exit → Act → World → Prop} {N : Act → World → Prop} (hh : o.wp P a w K (onlyN Q N)) : o.wp P a w K Q := by
 unfold Oper.wp at *
 generalize (execOp a.eval o).run P w = r at *
 cases r with
 | ok n w' =>
  cases n <;> simp only [Oper.upon] at hh ⊢ <;>
   first
    | exact hh
    | exact Calls.mono hh (fun e w'' he => by cases e <;> exact he)
 | halt x w' => cases x <;> simp only [Oper.upon] at hh ⊢ <;> exact hh
section
variable {P : Program} {ops : List Oper} {m : Nat} {J : St}
def APerm (P : Program) (ops : List Oper) (m : Nat) (J : St) : Nat → Array Bool → St → Prop
 | 0, listed, s => (List.range m).all (fun i => listed.getD i false) = true ∧ Le s J
 | f + 1, listed, s => ready .any ⟨ops⟩ listed ≠ [] ∧ ∀ i ∈ ready .any ⟨ops⟩ listed, i < m ∧ ∃ o, ops[i]? = some o ∧ AOps P ⟨ops⟩ [o] s (APerm P ops m J f (listed.setIfInBounds i true))
def AAllP (P : Program) (ops : List Oper) (m : Nat) (J : St) (f : Nat) (listed : Array Bool) (s : St) : List Nat → Prop
 | [] => True
 | i :: r => (∃ o, ops[i]? = some o ∧ AOps P ⟨ops⟩ [o] s (APerm P ops m J f (listed.setIfInBounds i true))) ∧ AAllP P ops m J f listed s r
theorem aall_mem {f : Nat} {listed : Array Bool} {s : St} : ∀ {is : List Nat}, AAllP P ops m J f listed s is → ∀ i ∈ is, ∃ o, ops[i]? = some o ∧ AOps P ⟨ops⟩ [o] s (APerm P ops m J f (listed.setIfInBounds i true))
 | _ :: _, h, i, hi => by
  rcases List.mem_cons.1 hi with rfl | hi
  ·exact h.1
  ·exact aall_mem h.2 i hi
theorem ae1 {f : Nat} {listed : Array Bool} {s : St} (is : List Nat) (hr : ready .any ⟨ops⟩ listed = is) (hm : (!is.isEmpty && is.all fun i => Nat.blt i m) = true) (h : AAllP P ops m J f listed s is) : APerm P ops m J (f + 1) listed s := by
 rw [Bool.and_eq_true, List.all_eq_true] at hm
 refine ⟨fun e => ?_, fun i hi => ⟨?_, ?_⟩⟩
 ·rw [← hr, e] at hm; simp at hm
 ·rw [hr] at hi; simpa using hm.2 i hi
 ·rw [hr] at hi; exact aall_mem h i hi
theorem ae8 {f : Nat} {listed : Array Bool} {s : St} : AAllP P ops m J f listed s [] := trivial
theorem ad6 {f : Nat} {listed : Array Bool} {s : St} {i : Nat} {o : Oper} {r : List Nat} (ho : ops[i]? = some o) (h : AOps P ⟨ops⟩ [o] s (APerm P ops m J f (listed.setIfInBounds i true))) (hr : AAllP P ops m J f listed s r) : AAllP P ops m J f listed s (i :: r) := ⟨⟨o, ho, h⟩, hr⟩
theorem ai6 {listed : Array Bool} {s : St} (hl : (List.range m).all (fun i => listed.getD i false) = true) (h : Le s J) : APerm P ops m J 0 listed s := ⟨hl, h⟩
theorem ba5 {K : St → Prop} {C0 : Ctx} {w0 : World} {Q : Exit → Act → World → Prop} {g : Nat} (hok : drawOk ops m = true) (hlen : m + g = ops.length) (hQ : Goal C0 w0 K Q) (hJ : AOps P ⟨ops⟩ (ops.drop m) J K) :
  ∀ (f : Nat) (listed : Array Bool) (s : St) (C : Ctx) (w : World) (a : Act), APerm P ops m J f listed s → LInv ops listed → (∀ i, m ≤ i → i < ops.length → listed.getD i true = false) → StRep C w a s → Fr C0 C w0 w → wpAny P .any ⟨ops⟩ Q (f + g) listed a w
 | 0, listed, s, C, w, a, ⟨hl, hle⟩, inv, hno, hs, hF => by
  rw [Nat.zero_add]
  obtain ⟨C', h1, h2⟩ := hle C w a hs
  refine bf6 hok g m listed a w hlen (Nat.le_refl _) inv (fun i hi => List.all_eq_true.1 hl i (List.mem_range.2 hi)) hno ?_
  exact hJ C' w a Q h1 (fun C2 w2 a2 s2 r1 r2 r3 => hQ C2 w2 a2 s2 r1 ((hF.trans h2).trans r2) r3)
 | f + 1, listed, s, C, w, a, ⟨hne, hall⟩, inv, hno, hs, hF => by
  rw [show f + 1 + g = (f + g) + 1 by omega]
  refine ⟨fun e => absurd e hne, fun i hi => ?_⟩
  obtain ⟨him, o, ho, hop⟩ := hall i hi
  have next : ∀ a' w', (∃ C' s1, StRep C' w' a' s1 ∧ Fr C C' w w' ∧ APerm P ops m J f (listed.setIfInBounds i true) s1) → wpAny P .any ⟨ops⟩ Q (f + g) (listed.setIfInBounds i true) a' w' := fun a' w' ⟨C', s1, h1, h2, hper⟩ =>
   ba5 hok hlen hQ hJ f _ s1 C' w' a' hper (inv.set hi) (fun k h1 h2 => by rw [getD_set_ne true (by omega)]; exact hno k h1 h2) h1 (hF.trans h2)
  have h := hop C w a (onlyN Q fun a' w' => ∃ C' s1, StRep C' w' a' s1 ∧ Fr C C' w w' ∧ APerm P ops m J f (listed.setIfInBounds i true) s1) hs (fun C' w' a' s' h1 h2 h3 => ⟨C', s', h1, h2, h3⟩)
  have hop' : (⟨ops⟩ : Array Oper)[i]? = some o := by simpa using ho
  unfold wpOp
  rw [hop']
  simp only
  unfold wpList at h
  split at h
  ·rename_i hw
   rw [if_pos hw]
   exact h.imp (fun h => Oper.wp_mono next (wp_onlyN h)) id
  ·rename_i hw
   rw [if_neg hw]
   exact next _ _ h
theorem at_perm {id : Nat} {l : List Oper} {s : St} {K : Exit → St → Prop} (m : Nat) (J : St) (hm : P.follows .mixedOrders = true) (hok : drawOk l m = true)
  (h : APerm P l m J m (Array.replicate l.length false) s) (hJ : AOps P ⟨l⟩ (l.drop m) J (fun s' => K .normal s')) : AT P (.region id ⟨l⟩ true) s K := by
 intro C w a hs
 obtain ⟨c1, c2, c3, c4, c5⟩ := chkAnd hok
 have c5' : m ≤ l.length := c5
 have hw : Agree w { w with drawn := w.drawn + 1 } := ⟨Nat.le_refl _, fun _ _ => rfl, rfl, rfl⟩
 have hs0 : StRep C { w with drawn := w.drawn + 1 } a s := ak7 hs hw
 refine wp_region_any hm ?_
 have hsz : (⟨l⟩ : Array Oper).size = m + (l.length - m) := by show l.length = _; omega
 rw [hsz, ← hsz]
 have key := ba5 (K := fun s' => K .normal s') (C0 := C) (w0 := w) (Q := Post C w K) (g := l.length - m) hok (by omega) (fun C' w' a' s' h1 h2 h3 => ⟨C', s', h1, h2, h3⟩) hJ m (Array.replicate l.length false) s C { w with drawn := w.drawn + 1 } a h ⟨by simp, fun i k hi _ => by rw [ag8] at hi; cases hi⟩ (fun i h1 h2 => by
  rw [ap1 (by simpa using h2)]; exact ag8 _ _) hs0 (ap8 hw)
 rw [show m + (l.length - m) = (⟨l⟩ : Array Oper).size from hsz.symm] at key
 exact key
end
section
variable {P : Program} {T : List TI} {s : St} {ops : Array Oper}
theorem ov_min {x y : Operand} {tys : Array TypeId} {k k' : IntKind} {a b : Int} (hx : ev s x = .int k a) (hy : ev s y = .int k' b) : OpVal P s (.call ⟨.builtin .min, ⟨[x, y]⟩, tys⟩) (.int k (min a b)) := fun C w ac hs d ty pos af gu => by
 have hv := hs.ev x; rw [hx] at hv
 have hv2 := hs.ev y; rw [hy] at hv2
 generalize e1 : ac.eval x = v at hv
 generalize e2 : ac.eval y = v2 at hv2
 cases hv; cases hv2
 refine ⟨_, fun w' _ => ?_, .int _ _⟩
 have e : (if b < a then b else a) = min a b := by split <;> omega
 simp [execOp, resolve, invoke, builtin, e1, e2, Builtin.min_, Builtin.min2, e]
theorem oc_trem {t t' : Nat} {x y : Operand} {a b : Int} (hx : ev s x = .int .i64 a) (hy : ev s y = .int .i64 b) (h : I64 a ∧ (0 : Int) < b) : OpVal P s (.binOp .rem t x y t') (.int .i64 (Int.tmod a b)) := fun C w ac hs d ty pos af gu => by
 have hv := hs.ev x; rw [hx] at hv
 have hv2 := hs.ev y; rw [hy] at hv2
 generalize e1 : ac.eval x = v at hv
 generalize e2 : ac.eval y = v2 at hv2
 cases hv; cases hv2
 refine ⟨_, fun w' _ => ?_, .int _ _⟩
 have hb : ¬ b = 0 := by omega
 simp [execOp, e1, e2, eqGuard, binOp, Op.intDiv, hb]
theorem oc_tquo {t t' : Nat} {x y : Operand} {a b : Int} (hx : ev s x = .int .i64 a) (hy : ev s y = .int .i64 b) (h : I64 a ∧ (0 : Int) < b) : OpVal P s (.binOp .quo t x y t') (.int .i64 (Int.tdiv a b)) := fun C w ac hs d ty pos af gu => by
 have hv := hs.ev x; rw [hx] at hv
 have hv2 := hs.ev y; rw [hy] at hv2
 generalize e1 : ac.eval x = v at hv
 generalize e2 : ac.eval y = v2 at hv2
 cases hv; cases hv2
 refine ⟨_, fun w' _ => ?_, .int _ _⟩
 have hb : ¬ b = 0 := by omega
 have hq : IntKind.i64.wrap (Int.tdiv a b) = Int.tdiv a b := by
  have h1 : -9223372036854775808 ≤ a ∧ a ≤ 9223372036854775807 := h.1
  have h2 := h.2
  refine aj2 ?_
  rcases Int.le_total 0 a with h0 | h0
  ·rw [Int.tdiv_eq_ediv_of_nonneg h0]
   have := Int.ediv_nonneg h0 (Int.le_of_lt h2); have := Int.ediv_le_self b h0; omega
  ·have e : Int.tdiv a b = - ((-a) / b) := by
    rw [← Int.tdiv_eq_ediv_of_nonneg (by omega : 0 ≤ -a), Int.neg_tdiv, Int.neg_neg]
   have := Int.ediv_nonneg (by omega : 0 ≤ -a) (Int.le_of_lt h2); have := Int.ediv_le_self b (by omega : 0 ≤ -a); omega
 simp [execOp, e1, e2, eqGuard, binOp, Op.intDiv, hb, hq]
theorem oc_neg {t : Nat} {x : Operand} {a : Int} (hx : ev s x = .int .i64 a) (hT : TabOK P T) (h : I64 (-a)) : OpVal P s (.unOp .neg t x) (.int .i64 (-a)) :=
 al8 (T := T) hT (by
  have h1 : -9223372036854775808 ≤ -a ∧ -a ≤ 9223372036854775807 := h
  simp only [pstep, hx]
  rw [Int.zero_sub, aj2 h1])
theorem ax6 {f : FuncId} {args : List Operand} {args' pre suf : List V} {tys : Array TypeId} {d : Option Nat} {ty : Nat} {pos : String} {af : Array Edge} {gu : Option (Nat × Bool)} {r : List Oper} {K : St → Prop} {s1 : St}
  (u : Nat) {sz sz2 : Nat} {rows2 : List (List V)} {y y' : V} (hc : FC P f args' [(0, ⟨sz, []⟩)] 8 (fun x h2 => x = y ∧ hget h2 0 = some ⟨sz2, rows2⟩)) (hg : gd ops.toList s gu = some true) (hn : s.nx = u) (ha : evL s args = pre ++ .nilsl :: suf) (hv : V.rnL (dn [u]) (pre ++ .hsl u 0 0 :: suf) = args')
  (hy : y.rn ([u][·]?) = y') (hout : rnR ([u][·]?) rows2 = rows2) (hp : (⟨s.env, (u, ⟨sz2, rows2⟩) :: (u, ⟨sz, []⟩) :: s.heap, u + 1, s.n, s.lv⟩ : St).put d y' = some s1) (h : AOps P ops r s1 K) :
  AOps P ops (⟨d, .call ⟨.value (.func f), ⟨args⟩, tys⟩, ty, pos, af, gu⟩ :: r) s K :=
 at9 hg hc.1 fun C w a hs => by
  have hnx : C.nx = u := hs.nx.trans hn
  subst hnx
  obtain ⟨h1, h2, h3⟩ := bi4 hs.heap sz
  have hs0 : StRep (C.set C.nx ⟨none, sz, 0, 0⟩ (C.nx + 1)) w a ⟨s.env, (C.nx, ⟨sz, []⟩) :: s.heap, C.nx + 1, s.n, s.lv⟩ :=
   ⟨hs.defers, hs.size, rfl, fun j => (hs.env j).mono h2, h1, hs.lv⟩
  have hL : Lent [C.nx] ((C.nx, (⟨sz, []⟩ : HB)) :: s.heap) [(0, ⟨sz, []⟩)] := by
   refine ⟨fun j hj => ?_, fun j hb' hj => ?_⟩
   ·cases j with
    | zero => cases hj
    | succ j => simp
   ·cases j with
    | zero =>
     simp only [hget, Nat.beq_refl, cond_true, Option.some.injEq] at hj
     subst hj
     exact ⟨C.nx, ⟨sz, []⟩, rfl, by simp [hget], rfl, rfl⟩
    | succ j => cases hj
  have hd : distinct [C.nx] = true := rfl
  have hargs0 : RepL (C.set C.nx ⟨none, sz, 0, 0⟩ (C.nx + 1)) w (args.map a.eval) (pre ++ .hsl C.nx 0 0 :: suf) := by
   have key : ∀ (pre : List V) (vs : List Value), RepL C w vs (pre ++ .nilsl :: suf) → RepL (C.set C.nx ⟨none, sz, 0, 0⟩ (C.nx + 1)) w vs (pre ++ .hsl C.nx 0 0 :: suf) := by
    intro pre
    induction pre with
    | nil =>
     intro vs hh
     cases hh with
     | cons h t => exact .cons (av5 sz h) (t.mono h2)
    | cons x r ih =>
     intro vs hh
     cases hh with
     | cons h t => exact .cons (h.mono h2) (ih _ t)
   have := aq3 hs args
   rw [ha] at this
   exact key pre _ this
  have hargs : RepL ((C.set C.nx ⟨none, sz, 0, 0⟩ (C.nx + 1)).lend [C.nx]) w (args.map a.eval) args' := by
   rw [← hv]
   exact RepL.rn (bj1 hs0.heap (by simp)) hargs0
  refine (hc.2 ((C.set C.nx ⟨none, sz, 0, 0⟩ (C.nx + 1)).lend [C.nx]) w ⟨args.map a.eval⟩ rfl (bs8 hs0.heap (by simp) hd hL) hargs).mono ?_
  rintro e w' ⟨v, C2, x, hh2, rfl, e2, e3, e4, e5⟩
  have E := ay8 hs0.heap (by simp) e4
  have hH : HomeOK [C.nx] ((C.nx, (⟨sz, []⟩ : HB)) :: s.heap) hh2 ((C.nx, ⟨sz2, rows2⟩) :: (C.nx, ⟨sz, []⟩) :: s.heap) := fun x => by
   refine ⟨fun j hj => ?_, fun hj => ?_⟩
   ·have hx := ak9 hj
    have hj0 : j = 0 := by
     cases j with
     | zero => rfl
     | succ j => simp at hx
    subst hj0
    simp at hx
    subst hx
    simp only [hget, Nat.beq_refl, cond_true, e5.2, Option.map_some, hout]
   ·have hne : Nat.beq x C.nx = false := by
     cases hb : Nat.beq x C.nx
     ·rfl
     ·simp [dn, hb] at hj
    simp only [hget, hne, cond_false]
  have hst := bs3 hs0.heap (by simp) hd hL e4 e2 hH
  refine ⟨v, (C.set C.nx ⟨none, sz, 0, 0⟩ (C.nx + 1)).home C2 [C.nx], s1, rfl, ?_, h3.trans (bs2 (by simp) e4), h⟩
  refine af8 (C := (C.set C.nx ⟨none, sz, 0, 0⟩ (C.nx + 1)).home C2 [C.nx]) (w := w') (s := ⟨s.env, (C.nx, ⟨sz2, rows2⟩) :: (C.nx, ⟨sz, []⟩) :: s.heap, C.nx + 1, s.n, s.lv⟩) ⟨hs0.defers, hs0.size, hs0.nx, fun i => (hs0.env i).mono E, hst, hs0.lv⟩ ?_ hp
  have := Rep.rn (bi3 hs0.heap hd hL e4 e2) e3
  rw [e5.1, hy] at this
  exact this
end
theorem bv3 {a b : Nat} (h : Nat.ble a b = true) : a ≤ b := Nat.le_of_ble_eq_true h
end Go.Abs
