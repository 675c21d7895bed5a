/-
  laws.at: what it answers.
-/
import Derived.Test.YtbdmleibanpfnaaGreatDoorNF
import Derived.Test.YtbdmleibanpfnaaGreatDoorLibE
set_option linter.all false
set_option linter.all false
set_option maxRecDepth 100000
namespace Go.X1
open Go.Proofs
section
variable [Nu] {k : K}
theorem q_lt (a b : Nat) (c : A → R) : oLt (.int a) (.int b) c = c (.bool (Nat.blt a b)) := rfl
theorem q_if (t : Bool) (h : H) (x y : H → R) : oIf (.bool t) h x y = @Bool.rec (fun _ => R) (y h) (x h) t := rfl
theorem q_len (b o n : Nat) (c : A → R) : oLen (.ref 11 b o n) c = c (.int (9223372036854775808 + n)) := rfl
theorem q_len0 (b o n : Nat) (c : A → R) : oLen (.ref 3 b o n) c = c (.int 9223372036854775808) := rfl
theorem q_idx {j n : Nat} (h : j < n) (c : A → R) : oIdx 1 (.ref 11 0 0 n) (.int (9223372036854775808 + j)) c = c (.ref 1 0 j 0) := by
  have e1 : Nat.ble 9223372036854775808 (9223372036854775808 + j) = true := by rw [nat_ble]; simp
  have e2 : Nat.sub (9223372036854775808 + j) 9223372036854775808 = j := Nat.add_sub_cancel_left _ _
  have e3 : Nat.blt j n = true := by rw [nat_blt]; simp [h]
  have e : oIdx 1 (.ref 11 0 0 n) (.int (9223372036854775808 + j)) c = oCk (Nat.beq 11 (Nat.add 10 1)) (oCk (Nat.ble 9223372036854775808 (9223372036854775808 + j)) (oCk (Nat.blt (Nat.sub (9223372036854775808 + j) 9223372036854775808) n) (c (.ref 1 0 (Nat.add 0 (Nat.mul (Nat.sub (9223372036854775808 + j) 9223372036854775808) 1)) 0)))) := rfl
  rw [e, e1, e2, e3]
  show c (.ref 1 0 (0 + j * 1) 0) = _
  rw [Nat.mul_one, Nat.zero_add]
theorem q_ld {j n : Nat} (h : j < n) (l : A) (c : A → R) : oLd (.ref 1 0 j 0) (inH n l) c = c (tget junk (tsets l .lf 0) j) := by
  have e3 : Nat.blt j n = true := by rw [nat_blt]; simp [h]
  have e : oLd (.ref 1 0 j 0) (inH n l) c = oCk (Nat.ble 0 j) (oCk (Nat.blt j n) (c (tget junk (tsets l .lf 0) j))) := rfl
  have e1 : Nat.ble 0 j = true := by rw [nat_ble]; simp
  rw [e, e1, e3]; rfl
theorem q_b2i (x : Nat) (c : A → R) : oB2I (.byt x) c = c (.int (9223372036854775808 + x)) := rfl
theorem q_mul {a b : Nat} (h : a * b ≤ 9223372036854775807) (c : A → R) : oMul (.int (9223372036854775808 + a)) (.int (9223372036854775808 + b)) c = c (.int (9223372036854775808 + a * b)) := by
  have e1 : Nat.ble 9223372036854775808 (9223372036854775808 + a) = true := by rw [nat_ble]; simp
  have e2 : Nat.ble 9223372036854775808 (9223372036854775808 + b) = true := by rw [nat_ble]; simp
  have e3 : Nat.sub (9223372036854775808 + a) 9223372036854775808 = a := Nat.add_sub_cancel_left _ _
  have e4 : Nat.sub (9223372036854775808 + b) 9223372036854775808 = b := Nat.add_sub_cancel_left _ _
  have e5 : Nat.ble (Nat.mul a b) 9223372036854775807 = true := by rw [nat_ble]; exact decide_eq_true h
  have e : oMul (.int (9223372036854775808 + a)) (.int (9223372036854775808 + b)) c = oCk (Nat.ble 9223372036854775808 (9223372036854775808 + a)) (oCk (Nat.ble 9223372036854775808 (9223372036854775808 + b)) (oCk (Nat.ble (Nat.mul (Nat.sub (9223372036854775808 + a) 9223372036854775808) (Nat.sub (9223372036854775808 + b) 9223372036854775808)) 9223372036854775807) (c (.int (Nat.add 9223372036854775808 (Nat.mul (Nat.sub (9223372036854775808 + a) 9223372036854775808) (Nat.sub (9223372036854775808 + b) 9223372036854775808))))))) := rfl
  rw [e, e1, e2, e3, e4, e5]; rfl
theorem q_add {a b : Nat} (h : a + b ≤ 9223372036854775807) (c : A → R) : oAdd (.int (9223372036854775808 + a)) (.int (9223372036854775808 + b)) c = c (.int (9223372036854775808 + (a + b))) := by
  have e : oAdd (.int (9223372036854775808 + a)) (.int (9223372036854775808 + b)) c = @Bool.rec (fun _ => R) .bad (@Bool.rec (fun _ => R) .bad (c (.int (Nat.sub (Nat.add (9223372036854775808 + a) (9223372036854775808 + b)) 9223372036854775808))) (Nat.ble (Nat.add (9223372036854775808 + a) (9223372036854775808 + b)) 27670116110564327423)) (Nat.ble 9223372036854775808 (Nat.add (9223372036854775808 + a) (9223372036854775808 + b))) := rfl
  have e1 : Nat.add (9223372036854775808 + a) (9223372036854775808 + b) = 9223372036854775808 + (9223372036854775808 + (a + b)) := by
    show (9223372036854775808 + a) + (9223372036854775808 + b) = _
    omega
  have e2 : Nat.ble 9223372036854775808 (9223372036854775808 + (9223372036854775808 + (a + b))) = true := by rw [nat_ble]; simp
  have e3 : Nat.ble (9223372036854775808 + (9223372036854775808 + (a + b))) 27670116110564327423 = true := by rw [nat_ble]; exact decide_eq_true (by omega)
  have e4 : Nat.sub (9223372036854775808 + (9223372036854775808 + (a + b))) 9223372036854775808 = 9223372036854775808 + (a + b) := Nat.add_sub_cancel_left _ _
  rw [e, e1, e2, e3, e4]
theorem q_rem (a : Nat) (c : A → R) : oRem (.int (9223372036854775808 + a)) (.int 9223372036854776064) c = c (.int (9223372036854775808 + a % 256)) := by
  have e1 : Nat.ble 9223372036854775808 (9223372036854775808 + a) = true := by rw [nat_ble]; simp
  have e3 : Nat.sub (9223372036854775808 + a) 9223372036854775808 = a := Nat.add_sub_cancel_left _ _
  have e : oRem (.int (9223372036854775808 + a)) (.int 9223372036854776064) c = oCk (Nat.ble 9223372036854775808 (9223372036854775808 + a)) (c (.int (Nat.add 9223372036854775808 (Nat.mod (Nat.sub (9223372036854775808 + a) 9223372036854775808) 256)))) := rfl
  rw [e, e1, e3]; rfl
def agI (s : A) (j : Nat) : A := .cn s (.cn (.int (9223372036854775808 + j)) .nl)
theorem at_in {j n : Nat} (h : j < n) (l : A) {x : Nat} (hx : tget junk (tsets l .lf 0) j = .byt x) : f16 k (agI (.ref 11 0 0 n) j) (inH n l) = .go 1 (.cn (.int (9223372036854775808 + x)) .nl) (inH n l) := by
  have e : f16 k (agI (.ref 11 0 0 n) j) (inH n l) = oLen (.ref 11 0 0 n) fun v5 => oLt (.int (9223372036854775808 + j)) v5 fun v6 => oIf v6 (inH n l) (fun h7 => oIdx 1 (.ref 11 0 0 n) (.int (9223372036854775808 + j)) fun v9 => oLd v9 h7 fun v10 => oB2I v10 fun v11 => .go 1 (.cn v11 .nl) h7) (fun h8 => oMul (.int (9223372036854775808 + j)) (.int 9223372036854775845) fun v12 => oLen (.ref 11 0 0 n) fun v13 => oMul v13 (.int 9223372036854775819) fun v14 => oAdd v12 v14 fun v15 => oRem v15 (.int 9223372036854776064) fun v16 => .go 1 (.cn v16 .nl) h8) := rfl
  have e1 : Nat.blt (9223372036854775808 + j) (9223372036854775808 + n) = true := by rw [nat_blt]; exact decide_eq_true (by omega)
  rw [e, q_len, q_lt, e1, q_if]
  show (oIdx 1 (.ref 11 0 0 n) (.int (9223372036854775808 + j)) fun v9 => oLd v9 (inH n l) fun v10 => oB2I v10 fun v11 => .go 1 (.cn v11 .nl) (inH n l)) = _
  rw [q_idx h, q_ld h, hx, q_b2i]
theorem at_out {j n : Nat} (hj : j ≤ 2) (hn : n ≤ 1048576) (h : n ≤ j) (H0 : H) : f16 k (agI (.ref 11 0 0 n) j) H0 = .go 1 (.cn (.int (9223372036854775808 + (j * 37 + n * 11) % 256)) .nl) H0 := by
  have e : f16 k (agI (.ref 11 0 0 n) j) H0 = oLen (.ref 11 0 0 n) fun v5 => oLt (.int (9223372036854775808 + j)) v5 fun v6 => oIf v6 H0 (fun h7 => oIdx 1 (.ref 11 0 0 n) (.int (9223372036854775808 + j)) fun v9 => oLd v9 h7 fun v10 => oB2I v10 fun v11 => .go 1 (.cn v11 .nl) h7) (fun h8 => oMul (.int (9223372036854775808 + j)) (.int (9223372036854775808 + 37)) fun v12 => oLen (.ref 11 0 0 n) fun v13 => oMul v13 (.int (9223372036854775808 + 11)) fun v14 => oAdd v12 v14 fun v15 => oRem v15 (.int 9223372036854776064) fun v16 => .go 1 (.cn v16 .nl) h8) := rfl
  have e1 : Nat.blt (9223372036854775808 + j) (9223372036854775808 + n) = false := by rw [nat_blt]; exact decide_eq_false (by omega)
  rw [e, q_len, q_lt, e1, q_if]
  show (oMul (.int (9223372036854775808 + j)) (.int (9223372036854775808 + 37)) fun v12 => oLen (.ref 11 0 0 n) fun v13 => oMul v13 (.int (9223372036854775808 + 11)) fun v14 => oAdd v12 v14 fun v15 => oRem v15 (.int 9223372036854776064) fun v16 => .go 1 (.cn v16 .nl) H0) = _
  rw [q_mul (by omega), q_len, q_mul (by omega), q_add (by omega), q_rem]
theorem at_nil {j : Nat} (hj : j ≤ 2) (H0 : H) : f16 k (agI (.ref 3 0 0 0) j) H0 = .go 1 (.cn (.int (9223372036854775808 + (j * 37 + 0 * 11) % 256)) .nl) H0 := by
  have e : f16 k (agI (.ref 3 0 0 0) j) H0 = oLen (.ref 3 0 0 0) fun v5 => oLt (.int (9223372036854775808 + j)) v5 fun v6 => oIf v6 H0 (fun h7 => oIdx 1 (.ref 3 0 0 0) (.int (9223372036854775808 + j)) fun v9 => oLd v9 h7 fun v10 => oB2I v10 fun v11 => .go 1 (.cn v11 .nl) h7) (fun h8 => oMul (.int (9223372036854775808 + j)) (.int (9223372036854775808 + 37)) fun v12 => oLen (.ref 3 0 0 0) fun v13 => oMul v13 (.int (9223372036854775808 + 11)) fun v14 => oAdd v12 v14 fun v15 => oRem v15 (.int 9223372036854776064) fun v16 => .go 1 (.cn v16 .nl) h8) := rfl
  have e1 : Nat.blt (9223372036854775808 + j) 9223372036854775808 = false := by rw [nat_blt]; exact decide_eq_false (by omega)
  rw [e, q_len0, q_lt, e1, q_if]
  show (oMul (.int (9223372036854775808 + j)) (.int (9223372036854775808 + 37)) fun v12 => oLen (.ref 3 0 0 0) fun v13 => oMul v13 (.int (9223372036854775808 + 11)) fun v14 => oAdd v12 v14 fun v15 => oRem v15 (.int 9223372036854776064) fun v16 => .go 1 (.cn v16 .nl) H0) = _
  rw [q_mul (by omega), q_len0, show A.int 9223372036854775808 = .int (9223372036854775808 + 0) from rfl, q_mul (by omega), q_add (by omega), q_rem]
end
section
variable [Nu] {W0 : World}
/-- What 'at' answers, on the machine. -/
theorem at_run {v : Value} {bs : List UInt8} (hi : Inp W0 v bs) (hn : bs.length ≤ 1048576) (hB : ∃ cs el fz, W0.heap[1]? = some (.cells cs el fz)) {j : Nat} (hj : j ≤ 2) (w : World) (hA : Agree W0 w) :
    Calls Tryz.prog 16 #[v, .int .i64 j] w (fun e w' => e = .returned (.int .i64 (atV bs j)) ∧ Agree w w') := by
  have A16 : FnAns Tryz.prog W0 16 (f16 fun _ _ _ => .bad) := a16 (callOK_zero _ _)
  have fin : ∀ {α α' : Al} {h h' : H} {w' : World} {u : Value} {m : Nat} {L : Loc}, m = atV bs j → (α = fun i => if i = 0 then some L else none) → L.blk < W0.heap.size → Step W0 α w h α' w' h' → Rep α' u (.int (9223372036854775808 + m)) → u = .int .i64 (atV bs j) ∧ Agree w w' := fun {α α' h h' w' u m L} hm hα hL s hr => by
    subst hα
    obtain ⟨z, rfl, hz⟩ := rep_int hr
    refine ⟨?_, in_back hA hL s⟩
    rw [← hm]
    congr 1
    omega
  cases hi with
  | nil =>
    have e : (f16 (fun _ _ _ => .bad) (agI (.ref 3 0 0 0) j) (.mk .lf 0 0)).lf = _ := congrArg R.lf (at_nil hj (.mk .lf 0 0))
    obtain ⟨_, hc⟩ := A16 _ _ _ _ _ e
    refine (hc (fun _ => none) w [.slice none 0 0, .int .i64 j] ⟨hA, Nat.le_refl _, rfl, (fun _ _ e => by cases e), (fun _ _ e => by cases e), (fun _ _ _ _ e => by cases e)⟩ (.cons (.ref .nsl) (.cons (.int (by omega)) .nil))).mono ?_
    rintro e w' ⟨u, α', rfl, s, hr⟩
    obtain ⟨z, rfl, hz⟩ := rep_int hr
    have hv : atV [] j = (j * 37 + 0 * 11) % 256 := by unfold atV; rw [dif_neg (by simp)]; rfl
    refine ⟨?_, ⟨s.fr.size, fun b hb => s.fr.keep b hb (fun _ _ e => by cases e), s.fr.os, s.fr.out⟩⟩
    rw [hv]
    congr 2
    omega
  | @zero a =>
    obtain ⟨cs, el, fz, hb⟩ := hB
    have e : (f16 (fun _ _ _ => .bad) (agI (.ref 11 0 0 0) j) (inH 0 (bytesL 0 (encB [])))).lf = _ := congrArg R.lf (at_out (n := 0) hj (by omega) (Nat.zero_le _) (inH 0 (bytesL 0 (encB []))))
    obtain ⟨_, hc⟩ := A16 _ _ _ _ _ e
    have hr0 := in_hr (bs := []) (b := 1) (o := 0) (c := 0) (cs := cs) (el := el) (fz := fz) hA (Nat.le_refl _) hb (Nat.zero_le _) (fun i x h => by simp at h)
    refine (hc _ w [.slice (some a) 0 0, .int .i64 j] hr0 (.cons (.ref (.sl (L := ⟨1, 0, 0, 1, 0, fz⟩) rfl rfl (Nat.lt_succ_self 0) (Nat.le_refl _) (Nat.le_refl _) rfl (.inl rfl))) (.cons (.int (by omega)) .nil))).mono ?_
    rintro e w' ⟨u, α', rfl, s, hr⟩
    have hv : (j * 37 + 0 * 11) % 256 = atV [] j := by unfold atV; rw [dif_neg (by simp)]; rfl
    obtain ⟨q1, q2⟩ := fin hv rfl (Array.getElem?_eq_some_iff.1 hb).1 s hr
    exact ⟨by rw [q1], q2⟩
  | @row b o c _ cs el fz hn' hb hc' hv' =>
    have hr0 := in_hr hA hn' hb hc' hv'
    have ha : RepL (fun i => if i = 0 then some (⟨b, o, 0, 1, c, fz⟩ : Loc) else none) [.slice (some ⟨b, o, none⟩) bs.length c, .int .i64 j] (agI (.ref 11 0 0 bs.length) j) :=
      .cons (.ref (.sl (L := ⟨b, o, 0, 1, c, fz⟩) rfl rfl (Nat.lt_succ_self 0) (Nat.le_refl _) hn' (by show c * 1 + (0 - 0) = c; omega) (.inr rfl))) (.cons (.int (by omega)) .nil)
    by_cases hlt : j < bs.length
    · have hx : tget junk (tsets (bytesL bs.length (encB bs)) .lf 0) j = .byt bs[j].toNat := by
        have hrep := repL_bytes (α := fun _ => none) bs
        have hl : llen (bytesL bs.length (encB bs)) = bs.length := by
          have := hrep.len
          rw [List.length_map] at this
          exact this.symm
        obtain ⟨_, f2⟩ := full_sets (bytesL bs.length (encB bs)) .lf 0 0 hrep.isL rfl (Nat.le_refl _)
        rw [f2, if_pos ⟨Nat.zero_le _, by rw [hl]; omega⟩, Nat.sub_zero]
        exact nth_bytes bs j _ (List.getElem?_eq_getElem hlt)
      have e : (f16 (fun _ _ _ => .bad) (agI (.ref 11 0 0 bs.length) j) (inH bs.length (bytesL bs.length (encB bs)))).lf = _ := congrArg R.lf (at_in hlt _ hx)
      obtain ⟨_, hc⟩ := A16 _ _ _ _ _ e
      refine (hc _ w _ hr0 ha).mono ?_
      rintro e w' ⟨u, α', rfl, s, hr⟩
      obtain ⟨q1, q2⟩ := fin (by unfold atV; rw [dif_pos hlt]) rfl (Array.getElem?_eq_some_iff.1 hb).1 s hr
      exact ⟨by rw [q1], q2⟩
    · have e : (f16 (fun _ _ _ => .bad) (agI (.ref 11 0 0 bs.length) j) (inH bs.length (bytesL bs.length (encB bs)))).lf = _ := congrArg R.lf (at_out hj hn (by omega) _)
      obtain ⟨_, hc⟩ := A16 _ _ _ _ _ e
      refine (hc _ w _ hr0 ha).mono ?_
      rintro e w' ⟨u, α', rfl, s, hr⟩
      obtain ⟨q1, q2⟩ := fin (by unfold atV; rw [dif_neg hlt]) rfl (Array.getElem?_eq_some_iff.1 hb).1 s hr
      exact ⟨by rw [q1], q2⟩
end
end Go.X1
