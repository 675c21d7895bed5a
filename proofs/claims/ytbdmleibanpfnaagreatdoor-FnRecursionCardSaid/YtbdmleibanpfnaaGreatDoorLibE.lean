/-
  Regions that draw their order: the region.
-/
import Derived.Test.YtbdmleibanpfnaaGreatDoorLibD
import Derived.Test.YtbdmleibanpfnaaGreatDoorLibA
import Derived.Lib.ItoaNum
import Derived.Lib.Atoi
import Derived.Lib.Join
import Derived.ProofKit
set_option linter.all false
set_option maxRecDepth 100000
namespace Go.X1
variable [Nu]
open Go.Region (ready binds)
theorem count_set:∀(m:Nat) (i:Nat) (p q:Nat→Bool),i<m→p i=true→q i=false→(∀ j,j≠i→q j=p j)→((List.range m).filter q).length+1=((List.range m).filter p).length:=by
  intro m
  induction m with
  |zero=>intro i p q hi;omega
  |succ m ih=>
    intro i p q hi hp hq hne
    rw [List.range_succ,List.filter_append,List.filter_append,List.length_append,List.length_append]
    by_cases him:i=m
    · subst him
      have e:(List.range i).filter q=(List.range i).filter p:=List.filter_congr fun j hj=>hne j (by have:=List.mem_range.1 hj;omega)
      rw [e];simp [hp,hq]
    · have:=ih i p q (by omega) hp hq hne
      have e: [m].filter q=[m].filter p:=List.filter_congr fun j hj=>hne j (by simp at hj;omega)
      rw [e];omega
theorem getD_rep (m j:Nat):(Array.replicate m false).getD j false=false:=by
  simp only [Array.getD_eq_getD_getElem?,Array.getElem?_replicate]
  split<;>rfl
section
variable {P:Program} {TT:List TI} {W0:World} {nt:Nat} {pu pv:List Nat} {ops:List Oper} {R:Nat→Rec} {Es:Nat→E} {Hs:Nat→H} {L:Array Bool} {α0:Al} {w0:World} {h0:H} {n0:Nat} {lf:Nat×A×H} {k:K} {Γ:Cx} {env:E} {h:H}
theorem ready_iff {i:Nat}(hL:LInv ops L):i∈ready .any ⟨ops⟩ L↔L.getD i false=false∧∃ o,ops[i]? =some o∧∀ k∈deps o,L.getD k false=true:=by
  rw [mem_ready]
  constructor
  · rintro⟨h1,o,h2,h3⟩
    have h2:ops[i]? =some o:=by simpa using h2
    have hi:i<ops.length:=by
      rcases Nat.lt_or_ge i ops.length with h|h
      · exact h
      · rw [List.getElem?_eq_none h]at h2;cases h2
    refine⟨by rw [← h1];simp [hL.size,hi],o,h2,fun k hk=>?_⟩
    unfold deps at hk
    obtain⟨e,he,hk⟩:=List.mem_filterMap.1 hk
    split at hk
    · cases hk;exact h3 e (by simpa using he) (by assumption)
    · cases hk
  · rintro⟨h1,o,h2,h3⟩
    have hi:i<ops.length:=by
      rcases Nat.lt_or_ge i ops.length with h|h
      · exact h
      · rw [List.getElem?_eq_none h]at h2;cases h2
    refine⟨by rw [← h1];simp [hL.size,hi],o,by simpa using h2,fun e he hb=>h3 e.on ?_⟩
    unfold deps
    exact List.mem_filterMap.2 ⟨e,by simpa using he,if_pos hb⟩
theorem inv_end (C:Can P W0 w0.heap.size nt TT pu pv ops R Es Hs)(hall:∀ p,p<ops.length→lb R L p=true){a:Act}{w:World}(hI:Inv W0 nt TT pu R Es Hs ops.length α0 w0 h0 L a w):ST W0 nt α0 w0 h0 (Es ops.length) (Hs ops.length) a w:=by
  obtain⟨α,β,h1,h2,_⟩:=hI
  refine⟨α,β,h1.congr (fun t=>?_) (fun b=>?_),?_⟩
  · have:=C.at (L:=L) (.s t) (Nat.le_refl _) (fun p' hp _=>hall p' hp) (fun p' h1 h2 _=>by omega)
    exact Eq.symm this
  · have:=C.at (L:=L) (.b b) (Nat.le_refl _) (fun p' hp _=>hall p' hp) (fun p' h1 h2 _=>by omega)
    exact⟨this.1.symm,fun i=>(this.2 i).symm⟩
  · have:=h2.st
    have e:QL TT pu R ops.length L=ops.length:=by
      obtain⟨q1,_,q3⟩:=ql_spec TT pu R ops.length L
      rcases Nat.lt_or_ge (QL TT pu R ops.length L) ops.length with h|h
      · have:=(q3 h).2
        rw [hall _ h]at this;cases this
      · omega
    rwa [e]at this
theorem Can.full (C:Can P W0 w0.heap.size nt TT pu pv ops R Es Hs)(hC:∀ p p',p<p'→p'<ops.length→kd TT pu (R p)=some .m→kd TT pu (R p')=some .m→anc (masks ops []) (R p').i (R p).i=true)(hL:LInv ops L){p:Nat}(hp:p<ops.length)(hno:lb R L p=false)(hd:∀ k∈Go.X1.deps (R p).o,L.getD k false=true)(hk:kd TT pu (R p)=some .m):
    (p+1=ops.length→∀ q,q+2=ops.length→kd TT pu (R q)=some .m→lb R L q=true)∧(p+2=ops.length→∀ q,q+1=ops.length→kd TT pu (R q)=some .m→lb R L q=false):=by
  refine⟨fun h1 q h2 hq=>C.anc_lb hL hp (.inr hd) (hC q p (by omega) hp hq hk),fun h1 q h2 hq=>?_⟩
  cases hb:lb R L q with
  |false=>rfl
  |true=>
    have:=C.anc_lb hL (by omega:q<ops.length) (.inl hb) (hC p q (by omega) (by omega) hk hq)
    rw [hno]at this;cases this
theorem any_gen (C:Can P W0 w0.heap.size nt TT pu pv ops R Es Hs){Q:Exit→Act→World→Prop}(St:Array Bool→Act→World→Prop)(hend:∀ L a w,(∀ p,p<ops.length→lb R L p=true)→St L a w→Q .normal a w)
    (hstep:∀ L a w p,LInv ops L→p<ops.length→lb R L p=false→(∀ k∈Go.X1.deps (R p).o,L.getD k false=true)→St L a w→∀ N:Act→World→Prop,(∀ a' w',St (L.setIfInBounds (R p).i true) a' w'→N a' w')→OpStep P (R p).gu (R p).o a w N Q):
    ∀(f:Nat) (L:Array Bool) (a:Act) (w:World),((List.range ops.length).filter fun i=>!L.getD i false).length=f→LInv ops L→St L a w→wpAny P .any ⟨ops⟩ Q f L a w
  |0,L,a,w,hf,hL,hI=>by
    have hall:∀ i,i<ops.length→L.getD i false=true:=fun i hi=>by
      have:=List.filter_eq_nil_iff.1 (List.length_eq_zero_iff.1 hf) i (List.mem_range.2 hi)
      simpa using this
    refine⟨?_,hend L a w (fun p hp=>hall _ (C.li hp)) hI⟩
    cases hr:ready .any ⟨ops⟩ L with
    |nil=>rfl
    |cons j r=>
      have hj:j∈ready .any ⟨ops⟩ L:=by rw [hr];simp
      obtain⟨h1,o,h2,_⟩:=(ready_iff hL).1 hj
      have hi:j<ops.length:=by
        rcases Nat.lt_or_ge j ops.length with h|h
        · exact h
        · rw [List.getElem?_eq_none h]at h2;cases h2
      rw [hall j hi]at h1;cases h1
  |f+1,L,a,w,hf,hL,hI=>by
    refine⟨fun hr=>?_,fun i hi=>?_⟩
    · exfalso
      have hex:∃ p,p<ops.length∧lb R L p=false:=by
        apply Classical.byContradiction
        intro hno
        have:((List.range ops.length).filter fun i=>!L.getD i false)=[]:=List.filter_eq_nil_iff.2 fun i hi=>by
          obtain⟨p,h1,h2⟩:=C.surj (List.mem_range.1 hi)
          have:lb R L p=true:=by
            cases hh:lb R L p
            · exact absurd ⟨p,h1,hh⟩ hno
            · rfl
          unfold lb at this
          rw [h2]at this
          simp [this]
        rw [this]at hf
        simp at hf
      obtain⟨_,s2,s3,s4⟩:=fstF_spec (fun p=>!lb R L p) ops.length 0
      have hlt:fstF (fun p=>!lb R L p) 0 ops.length<ops.length:=by
        rcases Nat.lt_or_ge (fstF (fun p=>!lb R L p) 0 ops.length) ops.length with h|h
        · exact h
        · obtain⟨p,h1,h2⟩:=hex
          have:=s3 p (Nat.zero_le _) (by omega)
          rw [h2]at this;cases this
      have hno:=s4 (by omega)
      generalize fstF (fun p=>!lb R L p) 0 ops.length=p0 at *
      have hno:lb R L p0=false:=by simpa using hno
      have:(R p0).i∈ready .any ⟨ops⟩ L:=(ready_iff hL).2 ⟨hno,(R p0).o,C.op p0 hlt,fun k hk=>by
        obtain⟨p',h1,h2⟩:=C.deps p0 hlt k hk
        have:=s3 p' (Nat.zero_le _) h1
        rw [← h2]
        unfold lb at this
        simpa using this⟩
      rw [hr]at this
      simp at this
    · obtain⟨h1,o,h2,h3⟩:=(ready_iff hL).1 hi
      have hil:i<ops.length:=by
        rcases Nat.lt_or_ge i ops.length with h|h
        · exact h
        · rw [List.getElem?_eq_none h]at h2;cases h2
      obtain⟨p,hp,rfl⟩:=C.surj hil
      have ho:=C.op p hp
      rw [h2]at ho
      cases ho
      have hf':((List.range ops.length).filter fun i=>!(L.setIfInBounds (R p).i true).getD i false).length=f:=by
        have:=count_set ops.length (R p).i (fun i=>!L.getD i false) (fun i=>!(L.setIfInBounds (R p).i true).getD i false) hil (by simp [h1]) (by
          rw [getD_set L _ _ (by rw [hL.size];exact hil),if_pos rfl];rfl) fun j hj=>by
          rw [getD_set L _ _ (by rw [hL.size];exact hil),if_neg fun e=>hj e.symm]
        omega
      obtain⟨s1,s2⟩:=hstep L a w p hL hp h1 h3 hI (wpAny P .any ⟨ops⟩ Q f (L.setIfInBounds (R p).i true)) fun a' w' hI'=>any_gen C St hend hstep f _ a' w' hf' (hL.set h2 hil h3) hI'
      unfold wpOp
      have hop:(⟨ops⟩:Array Oper)[(R p).i]? =some (R p).o:=by simpa using h2
      rw [hop]
      simp only
      by_cases hw:Region.wanted (R p).o (yielded ⟨ops⟩ a.tmps)=true
      · rw [if_pos hw];exact .inl (s1 ((wanted_iff (C.gu p hp)).1 hw))
      · rw [if_neg hw];exact s2 fun hv=>hw ((wanted_iff (C.gu p hp)).2 hv)
theorem any_order (C:Can P W0 w0.heap.size nt TT pu pv ops R Es Hs)(hC:∀ p p',p<p'→p'<ops.length→kd TT pu (R p)=some .m→kd TT pu (R p')=some .m→anc (masks ops []) (R p').i (R p).i=true)(hW:W0.heap.size≤w0.heap.size)(h00:h0.nx≤(Hs 0).nx){Q:Exit→Act→World→Prop}(hQ:∀ a w,ST W0 nt α0 w0 h0 (Es ops.length) (Hs ops.length) a w→Q .normal a w):
    ∀(f:Nat) (L:Array Bool) (a:Act) (w:World),((List.range ops.length).filter fun i=>!L.getD i false).length=f→LInv ops L→Inv W0 nt TT pu R Es Hs ops.length α0 w0 h0 L a w→wpAny P .any ⟨ops⟩ Q f L a w:=
  any_gen C (fun L a w=>Inv W0 nt TT pu R Es Hs ops.length α0 w0 h0 L a w) (fun L a w hall hI=>hQ a w (inv_end C hall hI)) fun L a w p hL hp h1 h3 hI N hn=>
    C.step hW h00 hL hp h1 h3 (fun hk=>(C.full hC hL hp h1 h3 hk).1) (fun hk=>(C.full hC hL hp h1 h3 hk).2) hI hn
section
variable {R':Nat→Rec} {Es':Nat→E} {Hs':Nat→H}
structure Twin (TT:List TI) (pu:List Nat) (n:Nat) (R:Nat→Rec) (Es:Nat→E) (Hs:Nat→H) (R':Nat→Rec) (Es':Nat→E) (Hs':Nat→H) (m:Nat):Prop where
  nm:n=m+2
  r:∀ p,p<m→R' p=R p
  e:∀ p,p≤m→Es' p=Es p
  h:∀ p,p≤m→Hs' p=Hs p
  i1:(R' m).i=(R (m+1)).i
  i2:(R' (m+1)).i=(R m).i
  k1:kd TT pu (R m)=some .m
  k2:kd TT pu (R (m+1))=some .m
  k3:kd TT pu (R' m)=some .m
  k4:kd TT pu (R' (m+1))=some .m
  w1:∀ l,wrt (R m) l=false∧wrt (R (m+1)) l=false∧wrt (R' m) l=false∧wrt (R' (m+1)) l=false
  en:Es n=Es m
  en':Es' n=Es' m
theorem Twin.inv {m:Nat}(T:Twin TT pu ops.length R Es Hs R' Es' Hs' m){a:Act}{w:World}(h1:lb R L m=false)(h2:lb R L (m+1)=false)(hI:Inv W0 nt TT pu R Es Hs ops.length α0 w0 h0 L a w):Inv W0 nt TT pu R' Es' Hs' ops.length α0 w0 h0 L a w:=by
  have hlb:∀ p,p<m→lb R' L p=lb R L p:=fun p hp=>by unfold lb;rw [T.r p hp]
  have hl1:lb R' L m=false:=by unfold lb at h2 ⊢;rw [T.i1];exact h2
  have hl2:lb R' L (m+1)=false:=by unfold lb at h1 ⊢;rw [T.i2];exact h1
  have cs:∀ x,x<ops.length→x<m∨x=m∨x=m+1:=fun x hx=>by have:=T.nm;omega
  have hrw:∀ l,RW R' ops.length L l=RW R ops.length L l:=fun l=>by
    refine fstF_congr _ _ fun x _ hx=>?_
    obtain⟨w1,w2,w3,w4⟩:=T.w1 l
    rcases cs x (by omega)with h|rfl|rfl
    · rw [T.r x h,hlb x h]
    · rw [w1,w3];rfl
    · rw [w2,w4];rfl
  have hvl:∀ l,VL R' Es' ops.length L l=VL R Es ops.length L l:=fun l=>by
    unfold VL
    rw [hrw]
    obtain⟨r1,_,r3⟩:=rw_spec R ops.length L l
    rcases Nat.lt_or_ge (RW R ops.length L l) ops.length with h|h
    · obtain⟨a1,_⟩:=r3 h
      obtain⟨w1,w2,_,_⟩:=T.w1 l
      rcases cs _ h with g|g|g
      · exact T.e _ (by omega)
      · rw [g,w1]at a1;cases a1
      · rw [g,w2]at a1;cases a1
    · rw [show RW R ops.length L l=ops.length by omega,T.en,T.en']
      exact T.e m (Nat.le_refl _)
  have hql:QL TT pu R' ops.length L=QL TT pu R ops.length L:=by
    refine fstF_congr _ _ fun x _ hx=>?_
    rcases cs x (by omega)with h|rfl|rfl
    · rw [T.r x h,hlb x h]
    · rw [T.k1,T.k3,h1,hl1]
    · rw [T.k2,T.k4,h2,hl2]
  have hqm:QL TT pu R ops.length L≤m:=by
    obtain⟨_,q2,_⟩:=ql_spec TT pu R ops.length L
    rcases Nat.lt_or_ge m (QL TT pu R ops.length L)with h|h
    · have:=q2 m h T.k1
      rw [h1]at this;cases this
    · exact h
  obtain⟨α,β,hs,hh,hm⟩:=hI
  refine⟨α,β,?_,⟨?_,fun y hy hl hk B hB=>?_,fun x hx=>?_,fun x hx=>?_⟩,fun p hp hl d hd hac=>?_⟩
  · rw [show VL R' Es' ops.length L=VL R Es ops.length L from funext hvl];exact hs
  · rw [hql,T.h _ hqm];exact hh.st
  · rw [hql]at hy ⊢
    rw [T.r y (by omega)]at hk
    rw [hlb y (by omega)]at hl
    rw [T.h y (by omega),T.h (y+1) (by omega)]at hB
    rw [T.h y (by omega),T.h _ hqm]
    exact hh.nn y hy hl hk B hB
  · rw [hql]at hx
    rw [T.h x (by omega)];exact hh.fu x hx
  · rw [hql]at hx
    rw [T.h x (by omega),T.h (x+1) (by omega)];exact hh.mo x hx
  · obtain⟨_,_,w3,w4⟩:=T.w1 (.s d)
    rcases cs p hp with h|rfl|rfl
    · rw [T.r p h]at hd hac
      rw [hlb p h]at hl
      exact hm p hp hl d hd hac
    · rw [wrt_s.2 hd]at w3;cases w3
    · rw [wrt_s.2 hd]at w4;cases w4
theorem any_twin (CA:Can P W0 w0.heap.size nt TT pu pv ops R Es Hs)(CB:Can P W0 w0.heap.size nt TT pu pv ops R' Es' Hs'){m:Nat}(T:Twin TT pu ops.length R Es Hs R' Es' Hs' m)
    (hW:W0.heap.size≤w0.heap.size) (h00:h0.nx≤(Hs 0).nx) {Q:Exit→Act→World→Prop} (hQ:∀ a w,ST W0 nt α0 w0 h0 (Es ops.length) (Hs ops.length) a w→Q .normal a w) (hQ':∀ a w,ST W0 nt α0 w0 h0 (Es' ops.length) (Hs' ops.length) a w→Q .normal a w):
    ∀(f:Nat) (L:Array Bool) (a:Act) (w:World),((List.range ops.length).filter fun i=>!L.getD i false).length=f→LInv ops L→(lb R L m=true∨lb R L (m+1)=false)→Inv W0 nt TT pu R Es Hs ops.length α0 w0 h0 L a w→wpAny P .any ⟨ops⟩ Q f L a w:=by
  have hn:=T.nm
  have h00':h0.nx≤(Hs' 0).nx:=by rw [T.h 0 (Nat.zero_le _)];exact h00
  have pos:∀ p,p<ops.length→∃ p',p'<ops.length∧(R' p').i=(R p).i∧(R' p').o=(R p).o∧(R' p').gu=(R p).gu∧(p'=m→p=m+1)∧(p'=m+1→p=m):=fun p hp=>by
    have key:∀ p',p'<ops.length→(R' p').i=(R p).i→(R' p').o=(R p).o∧(R' p').gu=(R p).gu:=fun p' hp' e=>by
      have a1:=CA.op p hp
      have a2:=CB.op p' hp'
      rw [e,a1]at a2
      have e2:(R' p').o=(R p).o:=(Option.some.inj a2).symm
      have g1:=CA.gu p hp
      have g2:=CB.gu p' hp'
      rw [e2,g1]at g2
      exact⟨e2,(Option.some.inj g2).symm⟩
    rcases(show p<m∨p=m∨p=m+1 by omega)with h|rfl|rfl
    · obtain⟨k1,k2⟩:=key p hp (by rw [T.r p h])
      exact⟨p,hp,by rw [T.r p h],k1,k2,fun e=>by omega,fun e=>by omega⟩
    · obtain⟨k1,k2⟩:=key (p+1) (by omega) T.i2
      exact⟨p+1,by omega,T.i2,k1,k2,fun e=>by omega,fun _=>rfl⟩
    · obtain⟨k1,k2⟩:=key m (by omega) T.i1
      exact⟨m,by omega,T.i1,k1,k2,fun _=>rfl,fun e=>by omega⟩
  intro f L a w hf hL hI1 hI2
  refine any_gen CA (fun L a w=>(Inv W0 nt TT pu R Es Hs ops.length α0 w0 h0 L a w∧(lb R L m=true∨lb R L (m+1)=false))∨(Inv W0 nt TT pu R' Es' Hs' ops.length α0 w0 h0 L a w∧lb R L (m+1)=true)) (fun L a w hall hI=>?_) (fun L a w p hL hp hno hd hI N hN=>?_) f L a w hf hL (.inl ⟨hI2,hI1⟩)
  · rcases hI with ⟨hI,_⟩|⟨hI,_⟩
    · exact hQ a w (inv_end CA hall hI)
    · refine hQ' a w (inv_end CB (fun p' hp'=>?_) hI)
      obtain⟨p,hp,e⟩:=CA.surj (CB.li hp')
      have:=hall p hp
      unfold lb at this ⊢
      rw [← e];exact this
  · have lbs:∀ q,q<ops.length→lb R (L.setIfInBounds (R p).i true) q=if p=q then true else lb R L q:=fun q hq=>CA.lb_set hL hp hq
    have other:Inv W0 nt TT pu R' Es' Hs' ops.length α0 w0 h0 L a w→(lb R L (m+1)=true∨(p=m+1∧lb R L m=false))→OpStep P (R p).gu (R p).o a w N Q:=fun hI hy=>by
      obtain⟨p',p1,p2,p3,p4,p5,p6⟩:=pos p hp
      have hno':lb R' L p'=false:=by unfold lb at hno ⊢;rw [p2];exact hno
      have:=CB.step (Q:=Q) (N:=N) hW h00' hL p1 hno' (by rw [p3];exact hd) (fun _ e q eq _=>by
          have h1:p'=m+1:=by omega
          have h2:=p6 h1
          have h3:q=m:=by omega
          subst h3
          unfold lb
          rw [T.i1]
          rcases hy with hy|hy
          · exact hy
          · have:=hy.1;omega) (fun _ e q eq _=>by
          have h1:p'=m:=by omega
          have h2:=p5 h1
          have h3:q=m+1:=by omega
          subst h3
          unfold lb
          rw [T.i2]
          cases hb:L.getD (R m).i false with
          |false=>rfl
          |true=>
            rcases hy with hy|⟨_,hy⟩
            · rw [h2]at hno
              rw [hno]at hy;cases hy
            · unfold lb at hy
              rw [hb]at hy;cases hy) hI (fun a' w' hI'=>hN a' w' (.inr ⟨by rw [p2]at hI';exact hI',by
            rw [lbs _ (by omega)]
            split
            · rfl
            · rcases hy with hy|hy
              · exact hy
              · exact absurd hy.1 ‹_›⟩))
      rw [p3,p4]at this
      exact this
    rcases hI with ⟨hI,hc⟩|⟨hI,hc⟩
    · by_cases hp1:p=m+1∧lb R L m=false
      · refine other (T.inv hp1.2 (by rw [← hp1.1];exact hno) hI) (.inr hp1)
      · refine CA.step hW h00 hL hp hno hd (fun _ e q eq _=>?_) (fun _ e q eq _=>?_) hI fun a' w' hI'=>hN a' w' (.inl ⟨hI',?_⟩)
        · have h1:p=m+1:=by omega
          have h2:q=m:=by omega
          subst h2
          cases hb:lb R L q with
          |true=>rfl
          |false=>exact absurd ⟨h1,hb⟩ hp1
        · have h1:p=m:=by omega
          have h2:q=m+1:=by omega
          subst h2
          rcases hc with hc|hc
          · rw [← h1]at hc;rw [hno]at hc;cases hc
          · exact hc
        · rw [lbs m (by omega),lbs (m+1) (by omega)]
          by_cases h1:p=m
          · exact .inl (by rw [if_pos h1])
          · rw [if_neg h1]
            rcases hc with hc|hc
            · exact .inl hc
            · by_cases h2:p=m+1
              · refine .inl ?_
                cases hb:lb R L m with
                |true=>rfl
                |false=>exact absurd ⟨h2,hb⟩ hp1
              · exact .inr (by rw [if_neg h2];exact hc)
    · exact other hI (.inl hc)
end
def stE (rs:List Rec)(e:E)(p:Nat):E:=match rs[p]? with |some r=>r.e|none=>e
def stH (rs:List Rec)(h:H)(p:Nat):H:=match rs[p]? with |some r=>r.h|none=>h
theorem chain_get:∀{rs:List Rec} {env env':E} {h h':H},Chain env h rs env' h'→stE rs env' 0=env∧stH rs h' 0=h∧∀(p:Nat) (r:Rec),rs[p]? =some r→stE rs env' (p+1)=r.e'∧stH rs h' (p+1)=r.h'
  | [],env,env',h,h',hc=>⟨hc.1.symm,hc.2.symm,fun p r e=>by simp at e⟩
  |x::rs,env,env',h,h',hc=>by
    obtain⟨h1,h2,h3⟩:=hc
    obtain⟨g1,g2,g3⟩:=chain_get h3
    refine⟨h1,h2,fun p r e=>?_⟩
    cases p with
    |zero=>cases e;exact⟨g1,g2⟩
    |succ p=>exact g3 p r e
theorem all_get:∀{rs dn:List Rec},AllOK P W0 n0 nt TT pu pv ops dn rs→∀(p:Nat) (r:Rec),rs[p]? =some r→∃ dn',RecOK P W0 n0 nt TT pu pv ops dn' r∧∀ x∈dn',x∈dn∨∃ p',p'<p∧rs[p']? =some x
  | [],dn,_,p,r,e=>by simp at e
  |y::rs,dn,h,p,r,e=>by
    cases p with
    |zero=>cases e;exact⟨dn,h.1,fun x hx=>.inl hx⟩
    |succ p=>
      obtain⟨dn',h1,h2⟩:=all_get h.2 p r e
      refine⟨dn',h1,fun x hx=>?_⟩
      rcases h2 x hx with h|⟨p',q1,q2⟩
      · rcases List.mem_cons.1 h with rfl|h
        · exact .inr ⟨0,by omega,rfl⟩
        · exact .inl h
      · exact .inr ⟨p'+1,by omega,q2⟩
theorem pairs_get {rs:List Rec}{D:Rec}(hp:rs.Pairwise (Pair P W0 TT pu (masks ops []))):∀ p p',p<p'→p'<rs.length→Pair P W0 TT pu (masks ops []) (rs[p]?.getD D) (rs[p']?.getD D):=fun p p' hpp hp'=>by
  have:=List.pairwise_iff_getElem.1 hp p p' (by omega) hp' hpp
  rw [List.getElem?_eq_getElem (by omega),List.getElem?_eq_getElem (by omega)]
  exact this
theorem can_ofX {rs:List Rec}{env':E}{h':H}(hc:Chain env h rs env' h')(hall:AllOK P W0 n0 nt TT pu pv ops [] rs)(hp:∀(p p':Nat)(r r':Rec),p<p'→rs[p]? =some r→rs[p']? =some r'→PairX P W0 TT pu (masks ops []) r r')(hmm:∀(p p':Nat)(r r':Rec),p<p'→rs[p]? =some r→rs[p']? =some r'→kd TT pu r=some .m→kd TT pu r'=some .m→anc (masks ops []) r'.i r.i=true∨(p+2=ops.length∧p'+1=ops.length))(hlen:rs.length=ops.length)(hnp:NoPg env)(hnd:nodupD nt ops=true):
    Can P W0 n0 nt TT pu pv ops (fun p=>rs[p]?.getD ⟨0,default,none,env',h',env',h',.no⟩) (stE rs env') (stH rs h'):=by
  obtain⟨c1,c2,c3⟩:=chain_get hc
  have hr:∀ p,p<ops.length→∃ r,rs[p]? =some r∧rs[p]?.getD ⟨0,default,none,env',h',env',h',.no⟩=r∧stE rs env' p=r.e∧stH rs h' p=r.h:=fun p hp=>by
    have:rs[p]? =some rs[p]:=List.getElem?_eq_getElem (by omega)
    exact⟨_,this,by rw [this];rfl,by unfold stE;rw [this],by unfold stH;rw [this]⟩
  have hrec:∀ p,p<ops.length→∃ r dn',rs[p]? =some r∧rs[p]?.getD ⟨0,default,none,env',h',env',h',.no⟩=r∧stE rs env' p=r.e∧stH rs h' p=r.h∧stE rs env' (p+1)=r.e'∧stH rs h' (p+1)=r.h'∧RecOK P W0 n0 nt TT pu pv ops dn' r∧∀ x∈dn',∃ p',p'<p∧rs[p']?.getD ⟨0,default,none,env',h',env',h',.no⟩=x:=fun p hp=>by
    obtain⟨r,r1,r2,r3,r4⟩:=hr p hp
    obtain⟨dn',a1,a2⟩:=all_get hall p r r1
    refine⟨r,dn',r1,r2,r3,r4,(c3 p r r1).1,(c3 p r r1).2,a1,fun x hx=>?_⟩
    rcases a2 x hx with h|⟨p',q1,q2⟩
    · simp at h
    · exact⟨p',q1,by rw [q2];rfl⟩
  refine⟨fun p hp=>?_,fun p hp=>?_,fun p hp=>?_,fun p hp=>?_,fun p hp=>?_,fun p hp=>?_,fun p p' hpp hp'=>?_,fun p p' hpp hp' hk1 hk2=>?_,by rw [c1];exact hnp,hnd⟩
  · obtain⟨r,dn',_,r2,r3,r4,r5,r6,_,_⟩:=hrec p hp
    rw [r2]
    exact⟨r3.symm,r4.symm,r5.symm,r6.symm⟩
  · obtain⟨r,dn',_,r2,_,_,_,_,r7,_⟩:=hrec p hp
    rw [r2]
    exact r7.op
  · obtain⟨r,dn',_,r2,_,_,_,_,r7,_⟩:=hrec p hp
    rw [r2]
    exact r7.gu
  · obtain⟨r,dn',_,r2,r3,r4,r5,r6,r7,_⟩:=hrec p hp
    rw [r2,r3,r4,r5,r6]
    exact r7.dop
  · obtain⟨r,dn',_,r2,_,_,_,_,r7,r8⟩:=hrec p hp
    rw [r2]
    intro k hk
    obtain⟨x,x1,x2⟩:=r7.deps k hk
    obtain⟨p',q1,q2⟩:=r8 x x1
    exact⟨p',q1,by rw [q2];exact x2⟩
  · obtain⟨r,dn',_,r2,_,_,_,_,r7,r8⟩:=hrec p hp
    rw [r2]
    intro g u e
    obtain⟨x,x1,x2⟩:=r7.g g u e
    obtain⟨p',q1,q2⟩:=r8 x x1
    exact⟨p',q1,by rw [q2];exact x2⟩
  · obtain⟨r,r1,r2,_,_⟩:=hr p (by omega)
    obtain⟨r',r1',r2',_,_⟩:=hr p' hp'
    rw [r2,r2']
    exact hp p p' r r' hpp r1 r1'
  · obtain⟨r,r1,r2,_,_⟩:=hr p (by omega)
    obtain⟨r',r1',r2',_,_⟩:=hr p' hp'
    rw [r2]at hk1 ⊢
    rw [r2']at hk2 ⊢
    exact hmm p p' r r' hpp r1 r1' hk1 hk2
theorem can_of {rs:List Rec}{env':E}{h':H}(hc:Chain env h rs env' h')(hall:AllOK P W0 n0 nt TT pu pv ops [] rs)(hp:rs.Pairwise (Pair P W0 TT pu (masks ops [])))(hlen:rs.length=ops.length)(hnp:NoPg env)(hnd:nodupD nt ops=true):
    Can P W0 n0 nt TT pu pv ops (fun p=>rs[p]?.getD ⟨0,default,none,env',h',env',h',.no⟩) (stE rs env') (stH rs h'):=by
  have pr:∀(p p':Nat) (r r':Rec),p<p'→rs[p]? =some r→rs[p']? =some r'→Pair P W0 TT pu (masks ops []) r r':=fun p p' r r' h1 e1 e2=>by
    obtain⟨l1,rfl⟩:=List.getElem?_eq_some_iff.1 e1
    obtain⟨l2,rfl⟩:=List.getElem?_eq_some_iff.1 e2
    exact List.pairwise_iff_getElem.1 hp p p' l1 l2 h1
  exact can_ofX hc hall (fun p p' r r' h1 e1 e2=>(pr p p' r r' h1 e1 e2).toPairX) (fun p p' r r' h1 e1 e2 k1 k2=>.inl ((pr p p' r r' h1 e1 e2).mm k1 k2)) hlen hnp hnd
theorem SV.dropP {nt:Nat}{V:Lc→E}{α:Al}{β:Be}{w:World}{a:Act}(hs:SV n0 nt V α β w a)(D:Nat→Bool)(hp:∀ t b o,(eget (V (.s t)).tm t=.p b o∨∃ g u,eget (V (.s t)).tm t=.pg g u b o)→D b=false)(hb:∀ d,D d=true→bget (V (.b d)).pb d=none):SV n0 nt V α (fun b=>if D b=true then none else β b) w a where
  defers:=hs.defers
  size:=hs.size
  slot t:=by
    have h1:=hs.slot t
    cases hq:eget (V (.s t)).tm t with
    |v x=>rw [hq]at h1;exact h1
    |p b o=>
      rw [hq]at h1
      obtain⟨k,q1,q2⟩:=h1
      exact⟨k,(if_neg (by rw [hp t b o (.inl hq)];simp)).trans q1,q2⟩
    |pg g u b o=>
      rw [hq]at h1
      obtain⟨k,q1,q2⟩:=h1
      exact⟨k,(if_neg (by rw [hp t b o (.inr ⟨g,u,hq⟩)];simp)).trans q1,q2⟩
  base b n hb':=by
    obtain⟨k,q1,q2⟩:=hs.base b n hb'
    exact⟨k,(if_neg fun e=>by rw [hb b e]at hb';cases hb').trans q1,q2⟩
  own b k hb':=hs.own b k (by
    by_cases e:D b=true
    · rw [if_pos e]at hb';cases hb'
    · rw [if_neg e]at hb';exact hb')
  inj b b' k h1 h2:=by
    by_cases e:D b=true
    · rw [if_pos e]at h1;cases h1
    · by_cases e':D b'=true
      · rw [if_pos e']at h2;cases h2
      · rw [if_neg e]at h1
        rw [if_neg e']at h2
        exact hs.inj b b' k h1 h2
theorem inv_start (C:Can P W0 w0.heap.size nt TT pu pv ops R Es Hs)(hf:∀ o∈ops,∀ d,o.dst=some d→hasN pv d=true→fresh (Es 0) d=true){a:Act}{w:World}(hs:ST W0 nt α0 w0 h0 (Es 0) (Hs 0) a w)(hL0:∀ i,L.getD i false=false):Inv W0 nt TT pu R Es Hs ops.length α0 w0 h0 L a w:=by
  obtain⟨α,β,h1,h2⟩:=hs
  let D:Nat→Bool:=fun b=>ops.any fun o=>(match o.dst with |some d=>Nat.beq d b|none=>false)&&hasN pv b
  have hD:∀ b,D b=true→fresh (Es 0) b=true:=fun b hb=>by
    obtain⟨o,o1,o2⟩:=List.any_eq_true.1 hb
    rw [Bool.and_eq_true]at o2
    cases hd:o.dst with
    |none=>rw [hd]at o2;cases o2.1
    |some d=>
      rw [hd]at o2
      have:d=b:=beq o2.1
      subst this
      exact hf o o1 d hd o2.2
  have h3:=h1.dropP D (fun t b o e=>by
    cases hb:D b with
    |false=>rfl
    |true=>exact absurd rfl (fresh_tm (hD b hb) e)) fun d hd=>fresh_pb (hD d hd)
  have h4:SV w0.heap.size nt (VL R Es ops.length L) α (fun b=>if D b=true then none else β b) w a:=h3.congr (fun t=>C.at (.s t) (Nat.zero_le _) (fun _ h _=>by omega) fun p' _ _ _=>hL0 _) fun b=>C.at (.b b) (Nat.zero_le _) (fun _ h _=>by omega) fun p' _ _ _=>hL0 _
  refine⟨α,_,h4,C.hup (x:=0) (Nat.zero_le _) (fun p _ hp hk=>?_) h2 (fun y hy=>by omega) (fun z hz=>by omega) fun z hz=>by omega,fun p hp _ d hd ha=>if_pos ?_⟩
  · have:=(ql_spec TT pu R ops.length L).2.1 p hp hk
    unfold lb at this
    rw [hL0]at this;cases this
  · obtain⟨f1,_⟩:=(C.dop p hp).1.fre d hd ha
    refine List.any_eq_true.2 ⟨(R p).o,List.mem_of_getElem? (C.op p hp),?_⟩
    rw [hd,f1]
    simp
theorem ST.drew {nt:Nat}{env:E}{h:H}{a:Act}{w:World}(hs:ST W0 nt α0 w0 h0 env h a w):ST W0 nt α0 w0 h0 env h a { w with drawn:=w.drawn+1 }:=by
  obtain⟨α,β,h1,h2⟩:=hs
  refine⟨α,β,⟨h1.defers,h1.size,h1.slot,h1.base,h1.own,h1.inj⟩,h2.trans ⟨HR.drew h2.hr,.refl _ _ _,⟨Nat.le_refl _,fun _ _ _=>rfl,rfl,rfl⟩,.refl _,fun _ _ _=>rfl⟩⟩
theorem HR.heq {α:Al}{w:World}{h1 h2:H}(e:Heq h1 h2)(hr:HR W0 α w h1):HR W0 α w h2 where
  agr:=hr.agr
  ro:=by rw [← e.ro,← e.nx];exact hr.ro
  full:=e.full hr.full
  dom b L q:=by
    obtain⟨a1,a2,a3⟩:=hr.dom b L q
    exact⟨by rw [← e.nx];exact a1,a2.imp id fun q=>by rw [← e.ro];exact q,a3⟩
  blk b L q:=by rw [← e.tr];exact hr.blk b L q
  dis b b' L L' q q' g g':=by
    rw [← e.tr]at g g'
    exact hr.dis b b' L L' q q' g g'
theorem Step.heq {α0 α:Al}{w0 w:World}{h0 h1 h2:H}(e:Heq h1 h2)(s:Step W0 α0 w0 h0 α w h1):Step W0 α0 w0 h0 α w h2 where
  hr:=s.hr.heq e
  ext:=s.ext
  fr:=s.fr
  ro:=⟨by rw [← e.ro];exact s.ro.ro,by rw [← e.nx];exact s.ro.nx,fun b hb=>by rw [← e.tr];exact s.ro.keep b hb⟩
  un b hb q:=by rw [← e.tr];exact s.un b hb q
theorem ST.heq {nt:Nat}{env:E}{h1 h2:H}{a:Act}{w:World}(e:Heq h1 h2)(hs:ST W0 nt α0 w0 h0 env h1 a w):ST W0 nt α0 w0 h0 env h2 a w:=by
  obtain⟨α,β,s1,s2⟩:=hs
  exact⟨α,β,s1,s2.heq e⟩
theorem any_twinX (CA:Can P W0 w0.heap.size nt TT pu pv ops R Es Hs){m:Nat}(hn:ops.length=m+2)(k1:kd TT pu (R m)=some .m)(k2:kd TT pu (R (m+1))=some .m)(hB:Full (Hs m).tr (Hs m).nx→∃ R' Es' Hs',Can P W0 w0.heap.size nt TT pu pv ops R' Es' Hs'∧Twin TT pu ops.length R Es Hs R' Es' Hs' m∧∀ a w,ST W0 nt α0 w0 h0 (Es' ops.length) (Hs' ops.length) a w→ST W0 nt α0 w0 h0 (Es ops.length) (Hs ops.length) a w)
    (hW:W0.heap.size≤w0.heap.size) (h00:h0.nx≤(Hs 0).nx) {Q:Exit→Act→World→Prop} (hQ:∀ a w,ST W0 nt α0 w0 h0 (Es ops.length) (Hs ops.length) a w→Q .normal a w):
    ∀(f:Nat) (L:Array Bool) (a:Act) (w:World),((List.range ops.length).filter fun i=>!L.getD i false).length=f→LInv ops L→(lb R L m=true∨lb R L (m+1)=false)→Inv W0 nt TT pu R Es Hs ops.length α0 w0 h0 L a w→wpAny P .any ⟨ops⟩ Q f L a w:=by
  by_cases hf:Full (Hs m).tr (Hs m).nx
  · obtain⟨R',Es',Hs',CB,T,hQ'⟩:=hB hf
    exact any_twin CA CB T hW h00 hQ fun a w hs=>hQ a w (hQ' a w hs)
  · intro f L a w hc hL hI1 hI2
    refine any_gen CA (fun L a w=>Inv W0 nt TT pu R Es Hs ops.length α0 w0 h0 L a w∧(lb R L m=true∨lb R L (m+1)=false)) (fun L a w hall hI=>hQ a w (inv_end CA hall hI.1)) (fun L a w p hL hp hno hd hI N hN=>?_) f L a w hc hL ⟨hI2,hI1⟩
    obtain⟨hI,hc⟩:=hI
    have hlast:¬ (p=m+1∧lb R L m=false):=fun⟨e1,e2⟩=>by
      obtain⟨α,β,_,hh,_⟩:=hI
      refine hf (hh.fu m ?_).1
      obtain⟨q1,_,q3⟩:=ql_spec TT pu R ops.length L
      rcases Nat.lt_or_ge (QL TT pu R ops.length L) m with h|h
      · obtain⟨a1,a2⟩:=q3 (by omega)
        rcases CA.mm _ p (by omega) hp a1 (by rw [e1];exact k2)with g|⟨g,_⟩
        · have:=CA.anc_lb hL hp (.inr hd) g
          rw [a2]at this;cases this
        · omega
      · exact h
    have lbs:∀ q,q<ops.length→lb R (L.setIfInBounds (R p).i true) q=if p=q then true else lb R L q:=fun q hq=>CA.lb_set hL hp hq
    refine CA.step hW h00 hL hp hno hd (fun _ e q eq _=>?_) (fun _ e q eq _=>?_) hI fun a' w' hI'=>hN a' w' ⟨hI',?_⟩
    · have h1:p=m+1:=by omega
      have h2:q=m:=by omega
      subst h2
      cases hb:lb R L q with
      |true=>rfl
      |false=>exact absurd ⟨h1,hb⟩ hlast
    · have h1:p=m:=by omega
      have h2:q=m+1:=by omega
      subst h2
      rcases hc with hc|hc
      · rw [← h1]at hc;rw [hno]at hc;cases hc
      · exact hc
    · rw [lbs m (by omega),lbs (m+1) (by omega)]
      by_cases h1:p=m
      · exact .inl (by rw [if_pos h1])
      · rw [if_neg h1]
        rcases hc with hc|hc
        · exact .inl hc
        · by_cases h2:p=m+1
          · refine .inl ?_
            cases hb:lb R L m with
            |true=>rfl
            |false=>exact absurd ⟨h2,hb⟩ hlast
          · exact .inr (by rw [if_neg h2];exact hc)
theorem chain_app:∀{rs ss:List Rec} {env env':E} {h h':H},Chain env h (rs++ss) env' h'↔∃ e1 h1,Chain env h rs e1 h1∧Chain e1 h1 ss env' h'
  | [],ss,env,env',h,h'=>⟨fun hc=>⟨env,h,⟨rfl,rfl⟩,hc⟩,fun⟨e1,h1,⟨q1,q2⟩,hc⟩=>by subst q1;subst q2;exact hc⟩
  |r::rs,ss,env,env',h,h'=>by
    constructor
    · rintro⟨h1,h2,h3⟩
      obtain⟨e1,g1,q1,q2⟩:=chain_app.1 h3
      exact⟨e1,g1,⟨h1,h2,q1⟩,q2⟩
    · rintro⟨e1,g1,⟨h1,h2,q1⟩,q2⟩
      exact⟨h1,h2,chain_app.2 ⟨e1,g1,q1,q2⟩⟩
theorem allOK_app:∀{rs ss dn:List Rec},AllOK P W0 n0 nt TT pu pv ops dn (rs++ss)↔AllOK P W0 n0 nt TT pu pv ops dn rs∧AllOK P W0 n0 nt TT pu pv ops (rs.reverse++dn) ss
  | [],ss,dn=>⟨fun h=>⟨trivial,h⟩,fun h=>h.2⟩
  |r::rs,ss,dn=>by
    constructor
    · rintro⟨h1,h2⟩
      obtain⟨q1,q2⟩:=allOK_app.1 h2
      exact⟨⟨h1,q1⟩,by simpa using q2⟩
    · rintro⟨⟨h1,q1⟩,q2⟩
      exact⟨h1,allOK_app.2 ⟨q1,by simpa using q2⟩⟩
theorem two_get {pre:List Rec}{a b r:Rec}{p:Nat}(h:(pre++[a,b])[p]? =some r):(p<pre.length∧pre[p]? =some r)∨(p=pre.length∧r=a)∨(p=pre.length+1∧r=b):=by
  rcases Nat.lt_or_ge p pre.length with g|g
  · rw [List.getElem?_append_left g]at h
    exact .inl ⟨g,h⟩
  · rw [List.getElem?_append_right g]at h
    obtain⟨d,rfl⟩:∃ d,p=pre.length+d:=⟨p-pre.length,by omega⟩
    rw [Nat.add_sub_cancel_left]at h
    match d,h with
    |0,h=>exact .inr (.inl ⟨by omega,by simpa using h.symm⟩)
    |1,h=>exact .inr (.inr ⟨rfl,by simpa using h.symm⟩)
    |d+2,h=>simp at h
theorem can_two {pre:List Rec}{x y:Rec}{env':E}{h':H}(hc:Chain env h (pre++[x,y]) env' h')(hall:AllOK P W0 n0 nt TT pu pv ops [] (pre++[x,y]))(hp:pre.Pairwise (Pair P W0 TT pu (masks ops [])))
    (hx:∀ q∈pre,PairX P W0 TT pu (masks ops []) q x∧(kd TT pu q=some .m→kd TT pu x=some .m→anc (masks ops []) x.i q.i=true)) (hy:∀ q∈pre,PairX P W0 TT pu (masks ops []) q y∧(kd TT pu q=some .m→kd TT pu y=some .m→anc (masks ops []) y.i q.i=true)) (hxy:PairX P W0 TT pu (masks ops []) x y) (hlen:pre.length+2=ops.length) (hnp:NoPg env) (hnd:nodupD nt ops=true):
    Can P W0 n0 nt TT pu pv ops (fun p=>(pre++[x,y])[p]?.getD ⟨0,default,none,env',h',env',h',.no⟩) (stE (pre++[x,y]) env') (stH (pre++[x,y]) h'):=by
  have pr:∀(p p':Nat) (r r':Rec),p<p'→pre[p]? =some r→pre[p']? =some r'→Pair P W0 TT pu (masks ops []) r r':=fun p p' r r' h1 e1 e2=>by
    obtain⟨l1,rfl⟩:=List.getElem?_eq_some_iff.1 e1
    obtain⟨l2,rfl⟩:=List.getElem?_eq_some_iff.1 e2
    exact List.pairwise_iff_getElem.1 hp p p' l1 l2 h1
  refine can_ofX hc hall (fun p p' r r' h1 e1 e2=>?_) (fun p p' r r' h1 e1 e2 k1 k2=>?_) (by simpa using hlen) hnp hnd
  · rcases two_get e1 with ⟨g1,g2⟩|⟨g1,rfl⟩|⟨g1,rfl⟩
    · rcases two_get e2 with ⟨f1,f2⟩|⟨f1,rfl⟩|⟨f1,rfl⟩
      · exact(pr p p' r r' h1 g2 f2).toPairX
      · exact(hx r (List.mem_of_getElem? g2)).1
      · exact(hy r (List.mem_of_getElem? g2)).1
    · rcases two_get e2 with ⟨f1,f2⟩|⟨f1,rfl⟩|⟨f1,rfl⟩
      · omega
      · omega
      · exact hxy
    · rcases two_get e2 with ⟨f1,f2⟩|⟨f1,rfl⟩|⟨f1,rfl⟩<;>omega
  · rcases two_get e1 with ⟨g1,g2⟩|⟨g1,rfl⟩|⟨g1,rfl⟩
    · rcases two_get e2 with ⟨f1,f2⟩|⟨f1,rfl⟩|⟨f1,rfl⟩
      · exact .inl ((pr p p' r r' h1 g2 f2).mm k1 k2)
      · exact .inl ((hx r (List.mem_of_getElem? g2)).2 k1 k2)
      · exact .inl ((hy r (List.mem_of_getElem? g2)).2 k1 k2)
    · rcases two_get e2 with ⟨f1,f2⟩|⟨f1,rfl⟩|⟨f1,rfl⟩
      · omega
      · omega
      · exact .inr (by omega)
    · rcases two_get e2 with ⟨f1,f2⟩|⟨f1,rfl⟩|⟨f1,rfl⟩<;>omega
theorem wrt_no {r:Rec}(h1:r.o.dst=none)(h2:r.ac=.op)(l:Lc):wrt r l=false:=by
  cases hw:wrt r l with
  |false=>rfl
  |true=>
    cases l with
    |s t=>rw [wrt_s.1 hw]at h1;cases h1
    |b b=>rw [wrt_b.1 hw]at h2;cases h2
theorem two_at {pre:List Rec}{a b:Rec}:(pre++[a,b])[pre.length]? =some a∧(pre++[a,b])[pre.length+1]? =some b∧(pre++[a,b])[pre.length+2]? =none:=by
  refine⟨?_,?_,?_⟩
  · rw [List.getElem?_append_right (by omega)];simp
  · rw [List.getElem?_append_right (by omega)];simp
  · rw [List.getElem?_eq_none (by simp)]
theorem twin_of {pre:List Rec}{x y:Rec}{env':E}{h':H}(hc:Chain env h (pre++[x,y]) env' h')(hall:AllOK P W0 w0.heap.size nt TT pu pv ops [] (pre++[x,y]))(hp:pre.Pairwise (Pair P W0 TT pu (masks ops [])))
    (hx:∀ q∈pre,Pair P W0 TT pu (masks ops []) q x) (hy:∀ q∈pre,PairX P W0 TT pu (masks ops []) q y∧(kd TT pu q=some .m→anc (masks ops []) y.i q.i=true)) (hr:∀ q∈pre,(kd TT pu q=some .l∨kd TT pu q=some .p)→anc (masks ops []) x.i q.i=true∧anc (masks ops []) y.i q.i=true)
    (sw:Swap P W0 w0.heap.size nt TT pu pv x y) (hlen:pre.length+2=ops.length) (hnp:NoPg env) (hnd:nodupD nt ops=true) (hf:Full x.h.tr x.h.nx):
    ∃ R' Es' Hs',Can P W0 w0.heap.size nt TT pu pv ops R' Es' Hs'∧Twin TT pu ops.length (fun p=>(pre++[x,y])[p]?.getD ⟨0,default,none,env',h',env',h',.no⟩) (stE (pre++[x,y]) env') (stH (pre++[x,y]) h') R' Es' Hs' pre.length∧∀ a w,ST W0 nt α0 w0 h0 (Es' ops.length) (Hs' ops.length) a w→ST W0 nt α0 w0 h0 (stE (pre++[x,y]) env' ops.length) (stH (pre++[x,y]) h' ops.length) a w:=by
  obtain⟨hyy,hyx,d1,d2,hq⟩:=sw.sw hf
  obtain⟨e1,g1,c1,c2,c3,c4,c5,c6,c7⟩:=chain_app.1 hc
  obtain⟨o1,o2,o3,_⟩:=allOK_app.1 hall
  have kx:kd TT pu x=some .m:=by unfold kd;rw [sw.ax,sw.kx]
  have ky:kd TT pu y=some .m:=by unfold kd;rw [sw.ay,sw.ky]
  have kxB:∀ e h e' h',kd TT pu ⟨x.i,x.o,x.gu,e,h,e',h',.op⟩=some .m:=fun _ _ _ _=>by show some (kindOf TT pu x.o.op)=_;rw [sw.kx]
  have kyB:∀ e h e' h',kd TT pu ⟨y.i,y.o,y.gu,e,h,e',h',.op⟩=some .m:=fun _ _ _ _=>by show some (kindOf TT pu y.o.op)=_;rw [sw.ky]
  have hcB:Chain env h (pre++[⟨y.i,y.o,y.gu,x.e,x.h,x.e,hyy,.op⟩,⟨x.i,x.o,x.gu,x.e,hyy,x.e,hyx,.op⟩]) x.e hyx:=
    chain_app.2 ⟨e1,g1,c1,c2,c3,rfl,rfl,rfl,rfl⟩
  have haB:AllOK P W0 w0.heap.size nt TT pu pv ops [] (pre++[⟨y.i,y.o,y.gu,x.e,x.h,x.e,hyy,.op⟩,⟨x.i,x.o,x.gu,x.e,hyy,x.e,hyx,.op⟩]):=by
    refine allOK_app.2 ⟨o1,⟨o3.op,o3.gu,d1,fun k hk=>?_,fun g u e=>?_⟩,⟨o2.op,o2.gu,d2,fun k hk=>?_,fun g u e=>?_⟩,trivial⟩
    · obtain⟨z,z1,z2⟩:=o3.deps k hk
      rcases List.mem_cons.1 z1 with rfl|z1
      · exact absurd (z2 ▸ hk) sw.nd
      · exact⟨z,z1,z2⟩
    · obtain⟨z,z1,z2⟩:=o3.g g u e
      rcases List.mem_cons.1 z1 with rfl|z1
      · rw [sw.dx]at z2;cases z2
      · exact⟨z,z1,z2⟩
    · obtain⟨z,z1,z2⟩:=o2.deps k hk
      exact⟨z,List.mem_cons_of_mem _ z1,z2⟩
    · obtain⟨z,z1,z2⟩:=o2.g g u e
      exact⟨z,List.mem_cons_of_mem _ z1,z2⟩
  have CB:=can_two hcB haB hp (fun q q1=>⟨⟨(hy q q1).1.ne,(hy q q1).1.s1,(hy q q1).1.s2,fun e=>(by rw [kyB]at e;cases e),fun b w1 w2 _ e=>(by cases e),fun _ e=>(by rw [kyB]at e;rcases e with e|e<;>cases e),fun _ e e2=>(by
      have:=(hr q q1 e).2
      have e3:anc (masks ops []) y.i q.i=false:=e2
      rw [this]at e3;cases e3)⟩,fun e _=>(hy q q1).2 e⟩)
    (fun q q1=>⟨⟨(hx q q1).ne,(hx q q1).s1,(hx q q1).s2,fun e=>(by rw [kxB]at e;cases e),fun b w1 w2 _ e=>(by cases e),fun _ e=>(by rw [kxB]at e;rcases e with e|e<;>cases e),fun _ e e2=>(by
      have:=(hr q q1 e).1
      have e3:anc (masks ops []) x.i q.i=false:=e2
      rw [this]at e3;cases e3)⟩,fun e _=>(hx q q1).mm e kx⟩)
    ⟨fun e=>sw.ne e.symm,fun d e=>(by have e2:y.o.dst=some d:=e;rw [sw.dy]at e2;cases e2),fun d e=>(by have e2:x.o.dst=some d:=e;rw [sw.dx]at e2;cases e2),fun e=>(by rw [kxB]at e;cases e),fun b w1 w2 _ e=>(by cases e),fun _ e=>(by rw [kxB]at e;rcases e with e|e<;>cases e),fun _ e=>(by rw [kyB]at e;rcases e with e|e<;>cases e)⟩ hlen hnp hnd
  obtain⟨t1,t2,t3⟩:=two_at (pre:=pre) (a:=x) (b:=y)
  obtain⟨u1,u2,u3⟩:=two_at (pre:=pre) (a:=⟨y.i,y.o,y.gu,x.e,x.h,x.e,hyy,.op⟩) (b:=⟨x.i,x.o,x.gu,x.e,hyy,x.e,hyx,.op⟩)
  have ee:env'=x.e:=by rw [← c6,sw.e3]
  have he:h'=y.h':=c7.symm
  have lt:∀ p,p<pre.length→∀ a b:Rec,(pre++[a,b])[p]? =pre[p]? :=fun p hp a b=>List.getElem?_append_left hp
  have lt2:∀ p,p<pre.length→∃ r,pre[p]? =some r:=fun p hp=>⟨_,List.getElem?_eq_getElem hp⟩
  refine⟨_,_,_,CB,⟨hlen.symm,fun p hp=>?_,fun p hp=>?_,fun p hp=>?_,?_,?_,?_,?_,?_,?_,fun l=>⟨?_,?_,?_,?_⟩,?_,?_⟩,fun a w hs=>?_⟩
  · obtain⟨r,hr⟩:=lt2 p hp
    simp only [lt p hp,hr,Option.getD_some]
  · rcases Nat.lt_or_ge p pre.length with hp'|hp'
    · obtain⟨r,hr⟩:=lt2 p hp'
      unfold stE
      rw [lt p hp',lt p hp',hr]
    · have:p=pre.length:=by omega
      subst this
      unfold stE
      rw [t1,u1]
  · rcases Nat.lt_or_ge p pre.length with hp'|hp'
    · obtain⟨r,hr⟩:=lt2 p hp'
      unfold stH
      rw [lt p hp',lt p hp',hr]
    · have:p=pre.length:=by omega
      subst this
      unfold stH
      rw [t1,u1]
  · simp only [u1,t2,Option.getD_some]
  · simp only [u2,t1,Option.getD_some]
  · simp only [t1,Option.getD_some];exact kx
  · simp only [t2,Option.getD_some];exact ky
  · simp only [u1,Option.getD_some];exact kyB _ _ _ _
  · simp only [u2,Option.getD_some];exact kxB _ _ _ _
  · simp only [t1,Option.getD_some];exact wrt_no sw.dx sw.ax l
  · simp only [t2,Option.getD_some];exact wrt_no sw.dy sw.ay l
  · simp only [u1,Option.getD_some];exact wrt_no (r:=⟨y.i,y.o,y.gu,x.e,x.h,x.e,hyy,.op⟩) sw.dy rfl l
  · simp only [u2,Option.getD_some];exact wrt_no (r:=⟨x.i,x.o,x.gu,x.e,hyy,x.e,hyx,.op⟩) sw.dx rfl l
  · rw [← hlen];unfold stE;rw [t3,t1];exact ee
  · rw [← hlen];unfold stE;rw [u3,u1]
  · rw [← hlen]at hs ⊢
    unfold stE stH at hs ⊢
    rw [u3]at hs
    rw [t3]
    rw [ee,he]
    exact hs.heq hq
theorem region_any (hm:P.follows .mixedOrders=true)(hΓ:Γ.T=TT)(hT:TabOK P TT)(hB:TabB P TT)(hF:TabF P TT)(hk:CallOK P W0 k)(hW:W0.heap.size≤w0.heap.size){id:Nat}{K:E→H→X1.R}{l:List Nat}(hnp:NoPg env)(hnd:nodupD nt ops=true)(hfr:freshA Γ env ops=true)(h00:h0.nx≤h.nx)
    (hl:(drun Γ k ops (masks ops []) l ⟨[],[],[],[],[],[]⟩ env h fun env h=>K (purge env) h).lf=some lf):
    ∃ env' h',NoPg env'∧(K env' h').lf=some lf∧∀(Q:Exit→Act→World→Prop),(∀ a w,ST W0 nt α0 w0 h0 env' h' a w→Q .normal a w)→∀ a w,ST W0 nt α0 w0 h0 env h a w→(Code.region id ⟨ops⟩ true).wp P Q a w:=by
  have fl:(List.range (⟨ops⟩:Array Oper).size).filter (fun i=>!(Array.replicate (⟨ops⟩:Array Oper).size false).getD i false)=List.range ops.length:=List.filter_eq_self.2 fun i hi=>by
    rw [getD_rep];rfl
  have li:LInv ops (Array.replicate (⟨ops⟩:Array Oper).size false):=⟨by simp,fun i o ho h=>by rw [getD_rep]at h;cases h⟩
  have fr:∀ o∈ops,∀ d,o.dst=some d→hasN Γ.pv d=true→fresh env d=true:=fun o ho d hd hpv=>by
    have:=List.all_eq_true.1 hfr o ho
    rw [hd]at this
    simpa [hpv]using this
  rcases drun_rec (n0:=w0.heap.size) (nt:=nt) hΓ hT hB hF hk l _ env h [] hl ⟨fun x hx=>by simp at hx,fun x hx=>by simp at hx,fun i=>by simp,rfl,fun d hd=>by simp at hd,fun x hx=>by simp at hx,fun x hx=>by simp at hx,fun x hx=>by simp at hx,fun p hp=>by simp at hp,fun x hx=>by simp at hx⟩ ⟨fun x hx=>by simp at hx,fun x hx=>by simp at hx,rfl,.nil,fun p hp=>by simp at hp⟩with
    ⟨rs,env',h',q1,q2,q3,_,q5,q6⟩|⟨rs,x,y,env',h',q1,q2,q3,_,q5,q6,q7,q8,q9,sw⟩
  · have hlen:rs.length=ops.length:=by simpa using q6
    have C:=can_of q2 q3 q5 hlen hnp hnd
    obtain⟨c1,c2,_⟩:=chain_get q2
    have e1:stE rs env' ops.length=env':=by unfold stE;rw [List.getElem?_eq_none (by omega)]
    have e2:stH rs h' ops.length=h':=by unfold stH;rw [List.getElem?_eq_none (by omega)]
    refine⟨purge env',h',noPg_purge env',q1,fun Q hQ a w hs=>?_⟩
    refine wp_region_any hm ?_
    refine any_order C (fun p p' h1 h2=>(pairs_get q5 p p' h1 (hlen ▸ h2)).mm) hW (by rw [c2];exact h00) (fun a w hs=>hQ a w (by rw [e1,e2]at hs;exact st_purge hs)) _ _ _ _ ?_ li (inv_start C (fun o ho d hd hpv=>by rw [c1];exact fr o ho d hd hpv) (by rw [c1,c2];exact hs.drew) fun i=>getD_rep _ _)
    exact(congrArg List.length fl).trans (by simp)
  · rcases q7 with q7|⟨_,q7⟩
    · obtain⟨pre,rfl⟩:∃ pre,rs=pre++[x]:=⟨rs.dropLast,by
        rcases List.eq_nil_or_concat rs with rfl|⟨l',b,rfl⟩
        · simp at q7
        · simp only [List.concat_eq_append,List.getLast?_append,List.getLast?_singleton,Option.some_or,Option.some.injEq]at q7
          subst q7
          simp [List.concat_eq_append]⟩
      have hlen:pre.length+2=ops.length:=by simpa using q6
      rw [List.append_assoc,List.singleton_append]at q2 q3
      rw [List.pairwise_append]at q5
      obtain⟨p1,_,p2⟩:=q5
      have p2:∀ q∈pre,Pair P W0 TT Γ.pu (masks ops []) q x:=fun q hq=>p2 q hq x (List.mem_singleton.2 rfl)
      have p3:∀ q∈pre,PairX P W0 TT Γ.pu (masks ops []) q y∧(kd TT Γ.pu q=some .m→anc (masks ops []) y.i q.i=true):=fun q hq=>by
        obtain⟨a1,a2⟩:=q8 q (.inr (List.mem_append_left _ hq))
        exact⟨a1,a2 (p2 q hq).ne⟩
      have p4:=(q8 x (.inr (List.mem_append_right _ (List.mem_singleton.2 rfl)))).1
      have p5:∀ q∈pre,(kd TT Γ.pu q=some .l∨kd TT Γ.pu q=some .p)→anc (masks ops []) x.i q.i=true∧anc (masks ops []) y.i q.i=true:=fun q hq=>q9 q (.inr (List.mem_append_left _ hq))
      have CA:=can_two q2 q3 p1 (fun q hq=>⟨(p2 q hq).toPairX,(p2 q hq).mm⟩) (fun q hq=>⟨(p3 q hq).1,fun e _=>(p3 q hq).2 e⟩) p4 hlen hnp hnd
      obtain⟨c1,c2,_⟩:=chain_get q2
      obtain⟨t1,t2,t3⟩:=two_at (pre:=pre) (a:=x) (b:=y)
      have e1:stE (pre++[x,y]) env' ops.length=env':=by rw [← hlen];unfold stE;rw [t3]
      have e2:stH (pre++[x,y]) h' ops.length=h':=by rw [← hlen];unfold stH;rw [t3]
      have e3:stH (pre++[x,y]) h' pre.length=x.h:=by unfold stH;rw [t1]
      refine⟨purge env',h',noPg_purge env',q1,fun Q hQ a w hs=>?_⟩
      refine wp_region_any hm ?_
      refine any_twinX CA hlen.symm ?_ ?_ (fun hf=>twin_of q2 q3 p1 p2 p3 p5 sw hlen hnp hnd (e3 ▸ hf)) hW (h0:=h0) (by show h0.nx≤(stH (pre++[x,y]) h' 0).nx;rw [c2];exact h00) (fun a w hs=>hQ a w (by rw [e1,e2]at hs;exact st_purge hs)) _ _ _ _ ?_ li (.inr (getD_rep _ _)) (inv_start CA (fun o ho d hd hpv=>by rw [c1];exact fr o ho d hd hpv) (by rw [c1,c2];exact hs.drew) fun i=>getD_rep _ _)
      · simp only [t1,Option.getD_some]
        unfold kd;rw [sw.ax,sw.kx]
      · simp only [t2,Option.getD_some]
        unfold kd;rw [sw.ay,sw.ky]
      · exact(congrArg List.length fl).trans (by simp)
    · simp at q7
end
end Go.X1

set_option maxRecDepth 100000
namespace Go.X1
variable [Nu]
theorem wp_loopN {P:Program}{Q:Exit→Act→World→Prop}{c:Code}(J:Nat→Act→World→Prop)(h0:∀ a w,¬ J 0 a w)(round:∀ m a w,J (m+1) a w→c.wp P (Exit.then (J m) Q) a w)(m:Nat)(a:Act)(w:World)(h:J m a w):(Code.loop c).wp P Q a w:=by
  intro b k cs
  have key:∀ m a w,J m a w→∃ e a' w',Q e a' w'∧Arrives P (lone (b.at a (.code c:: .inLoop c::k)) cs w) b k cs e a' w':=by
    intro m
    induction m with
    |zero=>intro a w h;exact absurd h (h0 a w)
    |succ m ih=>
      intro a w hI
      obtain⟨e,a₁,w₁,hq,harr⟩:=round m a w hI b (.inLoop c::k) cs
      cases e with
      |normal=>
        obtain⟨e₂,a₂,w₂,hq₂,harr₂⟩:=ih a₁ w₁ hq
        exact⟨e₂,a₂,w₂,hq₂,.of_steps (Steps.trans harr (.one step_inLoop)) harr₂⟩
      |exit id=>exact⟨_,a₁,w₁,hq,.pass (x:=.inLoop c) rfl (fun _ _=>.inl (by simp)) harr⟩
      |goto l=>exact⟨_,a₁,w₁,hq,.pass (x:=.inLoop c) rfl (fun _ _=>.inl (by simp)) harr⟩
      |ret=>exact⟨_,a₁,w₁,hq,.pass (x:=.inLoop c) rfl (fun _ _=>.inl (by simp)) harr⟩
      |panic ch=>exact⟨_,a₁,w₁,hq,.pass (x:=.inLoop c) rfl (fun _ _=>.inl (by simp)) harr⟩
      |outgrown=>exact⟨_,a₁,w₁,hq,.pass (x:=.inLoop c) rfl (fun _ _=>.inl (by simp)) harr⟩
  obtain⟨e,a',w',hq,harr⟩:=key _ a w h
  exact⟨e,a',w',hq,.of_steps (.one step_loop) harr⟩
structure Sub (env env':E):Prop where
  slot:∀ t,eget env'.tm t=.v junk∨eget env'.tm t=.v (sval (eget env.tm t))∨∃ b o,eget env'.tm t=.p b o∧eget env.tm t=.p b o
  base:∀ b n,bget env'.pb b=some n→bget env.pb b=some n
  cl:∀ b i,cget env'.cl b i=cget env.cl b i∨cget env'.cl b i=junk
theorem sub_e0 (env:E):Sub env e0:=⟨fun _=>.inl rfl,(fun _ _ h=>by cases h),fun _ _=>.inr rfl⟩
section
variable {P:Program} {TT:List TI} {W0:World} {nt:Nat} {α0:Al} {w0:World} {h0:H} {n0:Nat} {lf:Nat×A×H} {k:K} {Γ:Cx} {env env':E} {h:H} {a:Act} {w:World}
theorem Sub.sv {V:Lc→E}{α:Al}{β:Be}(hs:Sub env env')(h:SV n0 nt (fun _=>env) α β w a):SV n0 nt (fun _=>env') α β w a where
  defers:=h.defers
  size:=h.size
  slot t:=by
    have h1:=h.slot t
    rcases hs.slot t with e|e|⟨b,o,e,e2⟩
    · rw [e];exact .unk _
    · rw [e]
      show Rep α (a.tmps.getD t undef) (sval (eget env.tm t))
      cases hq:eget env.tm t with
      |v x=>rw [hq]at h1;exact h1
      |_=>exact .unk _
    · rw [e];rw [e2]at h1;exact h1
  base b n hb:=by
    obtain⟨k,q1,cs,el,q2,q3,q4⟩:=h.base b n (hs.base b n hb)
    refine⟨k,q1,cs,el,q2,q3,fun i hi=>?_⟩
    obtain⟨v,r1,r2,r3⟩:=q4 i hi
    refine⟨v,r1,r2,?_⟩
    rcases hs.cl b i with e|e<;>rw [e]
    · exact r3
    · exact .unk _
  own:=h.own
  inj:=h.inj
theorem Sub.st (hs:Sub env env')(h1:ST W0 nt α0 w0 h0 env h a w):ST W0 nt α0 w0 h0 env' h a w:=by
  obtain⟨α,β,q1,q2⟩:=h1
  exact⟨α,β,hs.sv (V:=fun _=>env) q1,q2⟩
theorem Sub.np (hs:Sub env env'):NoPg env':=fun t g u b q e=>by
  rcases hs.slot t with h|h|⟨_,_,h,_⟩<;>rw [h]at e<;>cases e
theorem un_lf:∀(L:List Key) (acc:E) (K:E→R),okL env L=true→Sub env acc→(un L (valsL env L) acc K).lf=some lf→∃ env',Sub env env'∧(K env').lf=some lf
  | [],acc,K,_,hs,hl=>⟨acc,hs,tid_lf hl⟩
  |.t n::r,acc,K,ho,hs,hl=>by
    refine un_lf r ⟨(n,.v (sval (eget env.tm n)))::acc.tm,acc.cl,acc.pb⟩ K ho ⟨fun t=>?_,hs.base,hs.cl⟩ hl
    show(bif Nat.beq t n then S.v (sval (eget env.tm n))else eget acc.tm t)=_∨(bif Nat.beq t n then S.v (sval (eget env.tm n))else eget acc.tm t)=_∨∃ b o,(bif Nat.beq t n then S.v (sval (eget env.tm n))else eget acc.tm t)=_∧_
    cases hb:Nat.beq t n
    · exact hs.slot t
    · have:t=n:=beq hb
      subst this
      exact .inr (.inl rfl)
  |.c b i::r,acc,K,ho,hs,hl=>by
    refine un_lf r ⟨acc.tm,((b,i),cget env.cl b i)::acc.cl,acc.pb⟩ K ho ⟨hs.slot,hs.base,fun b' i'=>?_⟩ hl
    show(bif Nat.beq b' b&&Nat.beq i' i then cget env.cl b i else cget acc.cl b' i')=_∨(bif Nat.beq b' b&&Nat.beq i' i then cget env.cl b i else cget acc.cl b' i')=_
    cases hb:Nat.beq b' b
    · exact hs.cl b' i'
    · cases hi:Nat.beq i' i
      · exact hs.cl b' i'
      · have h1:b'=b:=beq hb
        have h2:i'=i:=beq hi
        subst h1;subst h2
        exact .inl rfl
  |.b n m::r,acc,K,ho,hs,hl=>by
    have ho:((match bget env.pb n with |some q=>Nat.beq q m|none=>false)&&(match eget env.tm n with |.p b o=>Nat.beq b n&&Nat.beq o 0|_=>false)&&okL env r)=true:=ho
    rw [Bool.and_eq_true,Bool.and_eq_true]at ho
    obtain⟨⟨o1,o2⟩,o3⟩:=ho
    have e1:bget env.pb n=some m:=by
      cases hb:bget env.pb n with
      |none=>rw [hb]at o1;cases o1
      |some q=>rw [hb]at o1;rw [show q=m from beq o1]
    have e2:eget env.tm n=.p n 0:=by
      cases hb:eget env.tm n with
      |p b o=>
        rw [hb]at o2
        rw [Bool.and_eq_true]at o2
        rw [show b=n from beq o2.1,show o=0 from beq o2.2]
      |_=>rw [hb]at o2;cases o2
    refine un_lf r ⟨(n,.p n 0)::acc.tm,acc.cl,(n,m)::acc.pb⟩ K o3 ⟨fun t=>?_,fun b q hq=>?_,hs.cl⟩ (tid_lf hl)
    · show(bif Nat.beq t n then S.p n 0 else eget acc.tm t)=_∨(bif Nat.beq t n then S.p n 0 else eget acc.tm t)=_∨∃ b o,(bif Nat.beq t n then S.p n 0 else eget acc.tm t)=_∧_
      cases hb:Nat.beq t n
      · exact hs.slot t
      · have:t=n:=beq hb
        subst this
        exact .inr (.inr ⟨_,_,rfl,e2⟩)
    · have hq2:(bif Nat.beq b n then some m else bget acc.pb b)=some q:=hq
      cases hb:Nat.beq b n
      · rw [hb]at hq2;exact hs.base b q hq2
      · rw [hb]at hq2
        rw [show b=n from beq hb,e1];exact hq2
theorem fin_lf {L:List Key}{e:Nat}(hl:(fin L e env h).lf=some lf):okL env L=true∧lf=(e,valsL env L,h):=by
  rcases bb_lf (tid_lf hl)with ⟨h1,hl⟩|⟨_,hl⟩
  · cases hl;exact⟨h1,rfl⟩
  · exact bad_lf hl
theorem rThen_lf {f:A→H→R}{r:R}(hl:(rThen f r).lf=some lf):∃ e vs h',r.lf=some (e,vs,h')∧(e=0∧(f vs h').lf=some lf∨e≠0∧lf=(e,vs,h')):=by
  cases r with
  |bad=>cases hl
  |go e vs h'=>
    refine⟨e,vs,h',rfl,?_⟩
    rcases rec_lf hl with ⟨h1,hl⟩|⟨h1,hl⟩
    · exact .inl ⟨beq h1,hl⟩
    · refine .inr ⟨fun e0=>?_,by cases hl;rfl⟩
      subst e0;cases h1
theorem rBlk_lf {j:Nat}{r:R}{e:Nat}{vs:A}{h':H}(hl:(rBlk j r).lf=some (e,vs,h')):∃ e1,r.lf=some (e1,vs,h')∧(e1=j∧e=0∨e1≠j∧e=e1):=by
  cases r with
  |bad=>cases hl
  |go e1 vs1 h1=>
    rcases rec_lf hl with ⟨g1,hl⟩|⟨g1,hl⟩
    · cases hl;exact⟨e1,rfl,.inl ⟨beq g1,rfl⟩⟩
    · cases hl
      refine⟨_,rfl,.inr ⟨fun q=>?_,rfl⟩⟩
      subst q
      rw [nat_beq]at g1
      simp at g1
theorem res_e:∀(rs:List ResultVar) (c:A→R),(∀ l lf,(c l).lf=some lf→lf.1=1)→(res Γ rs env h c).lf=some lf→lf.1=1
  | [],c,hc,hl=>hc _ _ (tid_lf hl)
  |.tmp t::r,c,hc,hl=>res_e r _ (fun l lf hl=>hc _ _ hl) hl
  |.cell b t::r,c,hc,hl=>by
    unfold res at hl
    split at hl
    · rcases bb_lf hl with ⟨_,hl⟩|⟨_,hl⟩
      · exact res_e r _ (fun l lf hl=>hc _ _ hl) hl
      · exact bad_lf hl
    · rcases bb_lf hl with ⟨_,hl⟩|⟨_,hl⟩
      · rcases bb_lf hl with ⟨_,hl⟩|⟨_,hl⟩
        · obtain⟨_,_,_,_,hl⟩:=oPt_lf hl
          obtain⟨_,_,_,_,hl⟩:=oBlk_lf hl
          obtain⟨_,hl⟩:=oCk_lf hl
          obtain⟨_,hl⟩:=oCk_lf hl
          exact res_e r _ (fun l lf hl=>hc _ _ hl) hl
        · obtain⟨_,_,_,_,hl⟩:=oPt_lf hl
          obtain⟨_,_,_,_,hl⟩:=oBlk_lf hl
          obtain⟨_,hl⟩:=oCk_lf hl
          obtain⟨_,hl⟩:=oCk_lf hl
          exact res_e r _ (fun l lf hl=>hc _ _ hl) hl
      · exact bad_lf hl
theorem retR_e (hl:(retR Γ env h).lf=some lf):lf.1=1:=by
  replace hl:=tid_lf hl
  split at hl
  · exact res_e _ _ (fun l lf hl=>by cases hl;rfl) hl
  · exact res_e _ _ (fun l lf hl=>by cases hl;rfl) hl
theorem val_rep {V:Lc→E}{α:Al}{β:Be}(h:SV n0 nt (fun _=>env) α β w a)(y:Operand):Rep α (a.eval y) (val env y):=by
  cases y with
  |tmp t=>
    have h1:=h.slot t
    show Rep α (a.tmps.getD t undef) (sval (eget env.tm t))
    cases hq:eget env.tm t with
    |v x=>rw [hq]at h1;exact h1
    |_=>exact .unk _
  |const v=>exact rep_cv α v
  |func f=>exact .fn rfl .nil
  |global g=>exact .unk _
def Post (W0:World)(nt:Nat)(α0:Al)(w0:World)(h0:H)(Γ:Cx)(X:List (Nat×List Key))(K:E→H→R)(lf:Nat×A×H):Exit→Act→World→Prop
  |.normal,a,w=>∃ env' h',NoPg env'∧(K env' h').lf=some lf∧ST W0 nt α0 w0 h0 env' h' a w
  |.exit i,a,w=>∃ L env',lkp X i=some L∧okL env' L=true∧∃ h',ST W0 nt α0 w0 h0 env' h' a w∧lf=(i+2,valsL env' L,h')
  |.ret,a,w=>∃ env' h',ST W0 nt α0 w0 h0 env' h' a w∧(retR Γ env' h').lf=some lf
  |_,_,_=>False
theorem den_sound (hm:P.follows .mixedOrders=true)(hΓ:Γ.T=TT)(hnt:Γ.nt=nt)(hT:TabOK P TT)(hB:TabB P TT)(hF:TabF P TT)(hk:CallOK P W0 k)(hW:W0.heap.size≤w0.heap.size):
    ∀(c:Code) (lp:Nat) (X:List (Nat×List Key)) (env:E) (h:H) (K:E→H→R) (lf:Nat×A×H),(den Γ k c lp X env h K).lf=some lf→NoPg env→∀ a w,ST W0 nt α0 w0 h0 env h a w→c.wp P (Post W0 nt α0 w0 h0 Γ X K lf) a w
  |.skip,lp,X,env,h,K,lf,hl,hnp,a,w,hs=>wp_skip ⟨env,h,hnp,tid_lf hl,hs⟩
  |.ret,lp,X,env,h,K,lf,hl,hnp,a,w,hs=>wp_ret ⟨env,h,hs,hl⟩
  |.region id ⟨ops⟩ draw,lp,X,env,h,K,lf,hl,hnp,a,w,hs=>by
    unfold den at hl
    rcases bb_lf hl with ⟨hnd,hl⟩|⟨_,hl⟩
    · rw [hnt]at hnd
      cases draw
      · rcases bb_lf hl with ⟨h',_⟩|⟨_,hl⟩
        · cases h'
        · obtain⟨env',h',n1,n2,n3⟩:=region_seq hΓ hT hB hF hk hW hnp hnd hl
          exact n3 _ (fun a w hs=>⟨env',h',n1,n2,hs⟩) a w hs
      · rcases bb_lf hl with ⟨_,hl⟩|⟨h',_⟩
        · rcases bb_lf hl with ⟨hf,hl⟩|⟨_,hl⟩
          · have hs2:=hs
            obtain⟨α,β,_,hst⟩:=hs2
            obtain⟨env',h',n1,n2,n3⟩:=region_any hm hΓ hT hB hF hk hW hnp hnd hf hst.ro.nx hl
            exact n3 _ (fun a w hs=>⟨env',h',n1,n2,hs⟩) a w hs
          · exact bad_lf hl
        · cases h'
    · exact bad_lf hl
  |.seq x y,lp,X,env,h,K,lf,hl,hnp,a,w,hs=>by
    refine wp_seq (wp_mono (den_sound hm hΓ hnt hT hB hF hk hW x lp X env h _ lf hl hnp a w hs) fun e a' w' he=>?_)
    cases e with
    |normal=>
      obtain⟨env',h',n1,n2,n3⟩:=he
      exact den_sound hm hΓ hnt hT hB hF hk hW y lp X env' h' K lf n2 n1 a' w' n3
    |_=>exact he
  |.cond c x y,lp,X,env,h,K,lf,hl,hnp,a,w,hs=>by
    unfold den at hl
    have ev:∀{t:Bool},val env c=.bool t→a.eval c=.bool t:=fun e=>by
      have hs2:=hs
      obtain⟨α,β,q1,_⟩:=hs2
      have:=val_rep (V:=fun _=>env) q1 c
      rw [e]at this
      exact rep_bool this
    rcases bb_lf hl with ⟨_,hl⟩|⟨_,hl⟩
    · obtain⟨t,ht,hl⟩:=oBool_lf hl
      refine wp_cond (ev ht) ?_
      cases t
      · exact den_sound hm hΓ hnt hT hB hF hk hW y lp X env h K lf hl hnp a w hs
      · exact den_sound hm hΓ hnt hT hB hF hk hW x lp X env h K lf hl hnp a w hs
    · obtain⟨e,vs,h',hl1,hl2⟩:=rThen_lf hl
      obtain⟨t,ht,hl1⟩:=oBool_lf hl1
      have post:∀ ex a w,Post W0 nt α0 w0 h0 Γ X (fin (condK Γ.lc c x y) 0) (e,vs,h') ex a w→Post W0 nt α0 w0 h0 Γ X K lf ex a w:=fun ex a w hp=>by
        cases ex with
        |normal=>
          obtain⟨env',h'',_,n2,n3⟩:=hp
          obtain⟨f1,f2⟩:=fin_lf n2
          cases f2
          rcases hl2 with ⟨_,hl2⟩|⟨hne,_⟩
          · obtain⟨env'',s1,s2⟩:=un_lf _ _ _ f1 (sub_e0 env') hl2
            exact⟨env'',h',s1.np,s2,s1.st n3⟩
          · exact absurd rfl hne
        |exit i=>
          obtain⟨L,env',m1,m2,h'',m3,m4⟩:=hp
          cases m4
          rcases hl2 with ⟨h0',_⟩|⟨_,hl2⟩
          · omega
          · exact⟨L,env',m1,m2,h',m3,hl2⟩
        |ret=>
          obtain⟨env',h'',m1,m2⟩:=hp
          have:=retR_e m2
          rcases hl2 with ⟨h0',_⟩|⟨_,hl2⟩
          · have this:e=1:=this
            omega
          · exact⟨env',h'',m1,by rw [hl2];exact m2⟩
        |_=>exact hp
      refine wp_cond (ev ht) ?_
      cases t
      · exact wp_mono (den_sound hm hΓ hnt hT hB hF hk hW y lp X env h _ _ hl1 hnp a w hs) post
      · exact wp_mono (den_sound hm hΓ hnt hT hB hF hk hW x lp X env h _ _ hl1 hnp a w hs) post
  |.block i x,lp,X,env,h,K,lf,hl,hnp,a,w,hs=>by
    unfold den at hl
    obtain⟨e,vs,h',hl1,hl2⟩:=rThen_lf hl
    obtain⟨e1,hl1,he⟩:=rBlk_lf hl1
    refine wp_block (wp_mono (den_sound hm hΓ hnt hT hB hF hk hW x i _ env h _ _ hl1 hnp a w hs) fun ex a w hp=>?_)
    have back:∀ env' a w,okL env' (getK Γ.lb i)=true→e=0→vs=valsL env' (getK Γ.lb i)→ST W0 nt α0 w0 h0 env' h' a w→Post W0 nt α0 w0 h0 Γ X K lf .normal a w:=fun env' a w f1 e0' ev n3=>by
      rcases hl2 with ⟨_,hl2⟩|⟨hne,_⟩
      · rw [ev]at hl2
        obtain⟨env'',s1,s2⟩:=un_lf _ _ _ f1 (sub_e0 env') hl2
        exact⟨env'',h',s1.np,s2,s1.st n3⟩
      · exact absurd e0' hne
    cases ex with
    |normal=>
      obtain⟨env',h'',_,n2,n3⟩:=hp
      obtain⟨f1,f2⟩:=fin_lf n2
      cases f2
      refine back env' a w f1 ?_ rfl n3
      rcases he with ⟨h1,_⟩|⟨_,h1⟩
      · omega
      · exact h1
    |exit j=>
      obtain⟨L,env',m1,m2,h'',m3,m4⟩:=hp
      have m1:(bif Nat.beq j i then some (getK Γ.lb i)else lkp X j)=some L:=m1
      cases m4
      show if j=i then _ else _
      by_cases hji:j=i
      · rw [if_pos hji]
        subst hji
        rw [nat_beq,decide_eq_true rfl]at m1
        cases m1
        refine back env' a w m2 ?_ rfl m3
        rcases he with ⟨_,h1⟩|⟨h1,_⟩
        · exact h1
        · exact absurd rfl h1
      · rw [if_neg hji]
        rw [nat_beq,decide_eq_false hji]at m1
        rcases he with ⟨h1,_⟩|⟨_,h1⟩
        · omega
        · subst h1
          rcases hl2 with ⟨h1,_⟩|⟨_,hl2⟩
          · omega
          · exact⟨L,env',m1,m2,h',m3,hl2⟩
    |ret=>
      obtain⟨env',h'',m1,m2⟩:=hp
      have h1:e1=1:=retR_e m2
      subst h1
      rcases he with ⟨h1,_⟩|⟨_,h1⟩
      · omega
      · subst h1
        rcases hl2 with ⟨h1,_⟩|⟨_,hl2⟩
        · omega
        · exact⟨env',h'',m1,by rw [hl2];exact m2⟩
    |_=>exact hp
  |.loop x,lp,X,env,h,K,lf,hl,hnp,a,w,hs=>by
    unfold den at hl
    rcases bb_lf hl with ⟨ho,hl⟩|⟨_,hl⟩
    · let f:A→H→R:=fun vs h=>un (getK Γ.ll lp) vs e0 fun env=>den Γ k x lp X env h (fin (getK Γ.ll lp) 0)
      refine wp_loopN (fun m a w=>∃ env h,okL env (getK Γ.ll lp)=true∧ST W0 nt α0 w0 h0 env h a w∧(cLoop f m (valsL env (getK Γ.ll lp)) h).lf=some lf) (fun a w=>?_) (fun m a w=>?_) 100000 a w ⟨env,h,ho,hs,hl⟩
      · rintro⟨_,_,_,_,hl⟩;exact bad_lf hl
      · rintro⟨env,h,ho,hs,hl⟩
        have hl:(rThen (cLoop f m) (f (valsL env (getK Γ.ll lp)) h)).lf=some lf:=hl
        obtain⟨e,vs,h',hl1,hl2⟩:=rThen_lf hl
        obtain⟨env1,s1,hl1⟩:=un_lf _ _ _ ho (sub_e0 env) hl1
        refine wp_mono (den_sound hm hΓ hnt hT hB hF hk hW x lp X env1 h _ _ hl1 s1.np a w (s1.st hs)) fun ex a w hp=>?_
        cases ex with
        |normal=>
          obtain⟨env',h'',_,n2,n3⟩:=hp
          obtain⟨f1,f2⟩:=fin_lf n2
          cases f2
          rcases hl2 with ⟨_,hl2⟩|⟨hne,_⟩
          · exact⟨env',h',f1,n3,hl2⟩
          · exact absurd rfl hne
        |exit i=>
          obtain⟨L,env',m1,m2,h'',m3,m4⟩:=hp
          cases m4
          rcases hl2 with ⟨h0',_⟩|⟨_,hl2⟩
          · omega
          · exact⟨L,env',m1,m2,h',m3,hl2⟩
        |ret=>
          obtain⟨env',h'',m1,m2⟩:=hp
          have h1:e=1:=retR_e m2
          rcases hl2 with ⟨h0',_⟩|⟨_,hl2⟩
          · omega
          · exact⟨env',h'',m1,by rw [hl2];exact m2⟩
        |_=>exact hp
    · exact bad_lf hl
  |.exit i,lp,X,env,h,K,lf,hl,hnp,a,w,hs=>by
    unfold den at hl
    split at hl
    · rename_i L hL
      obtain⟨f1,f2⟩:=fin_lf hl
      exact wp_exit ⟨L,env,hL,f1,h,hs,f2⟩
    · exact bad_lf (tid_lf hl)
  |.scope _,lp,X,env,h,K,lf,hl,hnp,a,w,hs=>bad_lf hl
  |.label _,lp,X,env,h,K,lf,hl,hnp,a,w,hs=>bad_lf hl
  |.goto _,lp,X,env,h,K,lf,hl,hnp,a,w,hs=>bad_lf hl
  |.rangeFunc ..,lp,X,env,h,K,lf,hl,hnp,a,w,hs=>bad_lf hl
  |.refuse _,lp,X,env,h,K,lf,hl,hnp,a,w,hs=>bad_lf hl
end
end Go.X1

set_option maxRecDepth 100000
namespace Go.X1
variable [Nu]
section
variable {P:Program} {TT:List TI} {W0:World} {nt:Nat} {n0:Nat} {lf:Nat×A×H} {k:K} {Γ:Cx} {env:E} {h:H} {α:Al} {β:Be} {a:Act} {w:World}
def runRes (t:ResultVar)(tmps:Array Value):Sem Value:=match t with
  |.tmp t=>pure (tmps.getD t undef)
  |.cell a t=>do loadVar t (← asAddr (tmps.getD a undef))
theorem results_eq (fn:Func)(tmps:Array Value):results fn tmps=(do
    let vs ← fn.results.toList.mapM (fun r=>runRes r tmps)
    pure (match vs with | [v]=>v|vs=>.tuple ⟨vs⟩)):=by
  have e:results fn tmps=(do
      let vs ← fn.results.mapM (fun r=>runRes r tmps)
      pure (if h:vs.size=1 then vs[0]else .tuple vs)):=by
    unfold results
    congr 1
  rw [e,Array.mapM_eq_mapM_toList]
  simp only [bind_map_left]
  congr 1
  funext vs
  congr 1
  match vs with
  | []=>rfl
  | [v]=>rfl
  |_::_::_=>simp
theorem load_addr {t:Nat}{v u:Value}(h:(Instr.loadAt t v).run P w=.ok u w):(do loadVar t (← asAddr v):Sem Value).run P w=.ok u w:=by
  simp only [Instr.loadAt,Sem.run_bind]at h
  simp only [Sem.run_bind]
  unfold Instr.sureAddr at h
  split at h
  · simp only [Sem.run_pure,Result.andThen_ok,asAddr]at h ⊢
    exact h
  · simp at h
theorem row_load (hT:TabOK P TT){t b kk n q:Nat}(hz:nz TT t=true)(hr:Row α w kk n (cget env.cl b))(hq:q+(tget? TT t).size≤n):
    ∃ u,(loadVar t ⟨kk,q,none⟩).run P w=.ok u w∧Rep α u (bif (tget? TT t).agg then .nd 0 (cellsAt env b q (tget? TT t).size)else cget env.cl b q):=by
  have hpos:=nz_pos hz
  cases ha:(tget? TT t).agg
  · obtain⟨cs,el,g1,g2,g3⟩:=hr
    obtain⟨u,c1,c2,c3⟩:=g3 q (by omega)
    refine⟨u,?_,c3⟩
    have hc:=cell_of (w:=w) g1 c1
    simp [loadVar,hT.isAgg hz,ha,hc]
  · obtain⟨vs,g1,g2,g3,g4⟩:=row_vals hr (tget? TT t).size q hq
    refine⟨.agg ⟨vs⟩,?_,.agg g4 g3⟩
    have hc:=run_loadCells_list (P:=P) w ⟨kk,q,none⟩ vs (fun j v hj=>by rw [addr_add];exact g2 j v hj)
    rw [g1]at hc
    simp [loadVar,hT.isAgg hz,ha,hT.size hz,hc]
theorem res_sound (hΓ:Γ.T=TT)(hT:TabOK P TT):∀(rs:List ResultVar) (c:A→R),(res Γ rs env h c).lf=some lf→∃ l,(isL l∧llen l=rs.length)∧(c l).lf=some lf∧∀ α β w a,SV n0 nt (fun _=>env) α β w a→HR W0 α w h→
    ∃ vs,(rs.mapM (fun r=>runRes r a.tmps)).run P w=.ok vs w∧RepL α vs l
  | [],c,hl=>⟨.nl,⟨trivial,rfl⟩,tid_lf hl,fun α β w a _ _=>⟨[],by simp,.nil⟩⟩
  |.tmp t::r,c,hl=>by
    obtain⟨l,h0,h1,h2⟩:=res_sound hΓ hT r _ hl
    refine⟨.cn _ l,⟨h0.1,by rw [llen_cn,h0.2];rfl⟩,h1,fun α β w a hs hr=>?_⟩
    obtain⟨vs,q1,q2⟩:=h2 α β w a hs hr
    have e1:(runRes (.tmp t) a.tmps).run P w=.ok (a.tmps.getD t undef) w:=rfl
    exact⟨a.tmps.getD t undef::vs,by simp only [List.mapM_cons,Sem.run_bind,e1,Result.andThen_ok,q1,Sem.run_pure],.cons (val_rep (V:=fun _=>env) hs (.tmp t)) q2⟩
  |.cell b t::r,c,hl=>by
    unfold res at hl
    have go:∀{x:A},(res Γ r env h fun l=>c (.cn x l)).lf=some lf→(∀ α β w a,SV n0 nt (fun _=>env) α β w a→HR W0 α w h→∃ u,(runRes (.cell b t) a.tmps).run P w=.ok u w∧Rep α u x)→
        ∃ l,(isL l∧llen l=(ResultVar.cell b t::r).length)∧(c l).lf=some lf∧∀ α β w a,SV n0 nt (fun _=>env) α β w a→HR W0 α w h→∃ vs,((ResultVar.cell b t::r).mapM (fun r=>runRes r a.tmps)).run P w=.ok vs w∧RepL α vs l:=fun hl hx=>by
      obtain⟨l,h0,h1,h2⟩:=res_sound hΓ hT r _ hl
      refine⟨.cn _ l,⟨h0.1,by rw [llen_cn,h0.2];rfl⟩,h1,fun α β w a hs hr=>?_⟩
      obtain⟨vs,q1,q2⟩:=h2 α β w a hs hr
      obtain⟨u,u1,u2⟩:=hx α β w a hs hr
      exact⟨u::vs,by simp only [List.mapM_cons,Sem.run_bind,u1,Result.andThen_ok,q1,Sem.run_pure],.cons u2 q2⟩
    split at hl
    · rename_i b' q hp
      rcases bb_lf hl with ⟨hb,hl⟩|⟨_,hl⟩
      · rw [Bool.and_eq_true]at hb
        rw [hΓ]at hb hl
        refine go hl fun α β w a hs hr=>?_
        obtain⟨n,n1,n2⟩:=bhas_some hb.2
        obtain⟨kk,k1,k2⟩:=hs.base b' n n1
        have h1:=hs.slot b
        have e:eget env.tm b=.p b' q:=by
          simp only [ptrOf]at hp
          cases hq:eget env.tm b with
          |v x=>rw [hq]at hp;cases hp
          |p b2 o2=>rw [hq]at hp;cases hp;rfl
          |pg g u b2 o2=>rw [hq]at hp;cases hp
        rw [e]at h1
        obtain⟨k',e1,e2⟩:=h1
        rw [k1]at e1
        cases e1
        obtain⟨u,u1,u2⟩:=row_load hT hb.1 k2 n2
        refine⟨u,?_,u2⟩
        simp only [runRes,e2,asAddr,Sem.run_bind,Sem.run_pure,Result.andThen_ok]
        exact u1
      · exact bad_lf hl
    · rcases bb_lf hl with ⟨hz,hl⟩|⟨_,hl⟩
      · rw [hΓ]at hz hl
        rcases bb_lf hl with ⟨ha,hl⟩|⟨ha,hl⟩
        · obtain⟨x,hl,hx⟩:=ldN_sound (P:=P) hT hz ha hl
          refine go hl fun α β w a hs hr=>?_
          obtain⟨u,u1,u2⟩:=hx h (Mono.refl h) W0 α w _ hr (val_rep (V:=fun _=>env) hs (.tmp b))
          exact⟨u,load_addr u1,u2⟩
        · obtain⟨x,hl,hx⟩:=ld_sound (P:=P) hT hz ha hl
          refine go hl fun α β w a hs hr=>?_
          obtain⟨u,u1,_,u2⟩:=hx h (Mono.refl h) W0 α w _ hr (val_rep (V:=fun _=>env) hs (.tmp b))
          exact⟨u,load_addr u1,u2⟩
      · exact bad_lf hl
theorem retR_sound (hΓ:Γ.T=TT)(hT:TabOK P TT){fn:Func}(hrs:Γ.rs=fn.results.toList)(hl:(retR Γ env h).lf=some lf):
    ∃ v r,lf=(1,.cn v r,h)∧∀ α β w a,SV n0 nt (fun _=>env) α β w a→HR W0 α w h→∃ u,(results fn a.tmps).run P w=.ok u w∧Rep α u v:=by
  replace hl:=tid_lf hl
  split at hl
  · rename_i r hr
    obtain⟨l,h0,h1,h2⟩:=res_sound (n0:=n0) (nt:=nt) (W0:=W0) (P:=P) hΓ hT _ _ hl
    cases h1
    cases l with
    |cn v t=>
      refine⟨v,t,rfl,fun α β w a hs hr'=>?_⟩
      obtain⟨vs,q1,q2⟩:=h2 α β w a hs hr'
      have hlen:=q2.len
      rw [h0.2]at hlen
      rw [results_eq,← hrs,hr]
      match vs,hlen,q2 with
      | [u],_,.cons hv _=>exact⟨u,by simp only [Sem.run_bind,q1,Result.andThen_ok,Sem.run_pure],hv⟩
    |nl=>have:=h0.2;cases this
    |_=>exact h0.1.elim
  · rename_i rs hne
    obtain⟨l,h0,h1,h2⟩:=res_sound (n0:=n0) (nt:=nt) (W0:=W0) (P:=P) hΓ hT _ _ hl
    cases h1
    refine⟨_,_,rfl,fun α β w a hs hr'=>?_⟩
    obtain⟨vs,q1,q2⟩:=h2 α β w a hs hr'
    have hlen:=q2.len
    rw [h0.2]at hlen
    rw [results_eq,← hrs]
    refine⟨.tuple ⟨vs⟩,?_,.tup q2⟩
    simp only [Sem.run_bind,q1,Result.andThen_ok,Sem.run_pure]
    match vs,hlen with
    | [],_=>rfl
    | [v],hh=>
      exfalso
      generalize Γ.rs=rs at hne hh
      match rs,hne,hh with
      | [r],hne,_=>exact hne r rfl
    |_::_::_,_=>rfl
theorem args_lf:∀(n i:Nat) (l:A) (tm:List (Nat×S)) (c:List (Nat×S)→R),(args n i l tm c).lf=some lf→∃ tm',(c tm').lf=some lf∧((∀ t,∃ x,eget tm t=.v x)→∀ t,∃ x,eget tm' t=.v x)∧
    ∀(α:Al) (vs:List Value) (f:Nat→Value),RepL α vs l→(∀ t,∃ x,eget tm t=.v x∧Rep α (f t) x)→(∀ (j:Nat) (v:Value),vs[j]? =some v→f (i+j)=v)→∀ t,∃ x,eget tm' t=.v x∧Rep α (f t) x
  |0,i,l,tm,c,hl=>⟨tm,tid_lf hl,id,fun _ _ _ _ h _=>h⟩
  |n+1,i,l,tm,c,hl=>by
    obtain⟨x,r,rfl,hl⟩:=oCn_lf hl
    obtain⟨tm',h1,h3,h2⟩:=args_lf n (i+1) r _ c hl
    refine⟨tm',h1,fun ht=>h3 fun t=>?_,fun α vs f hr ht hf=>?_⟩
    · show ∃ y,(bif Nat.beq t i then S.v x else eget tm t)=.v y
      cases Nat.beq t i
      · exact ht t
      · exact⟨x,rfl⟩
    cases hr with
    |cons hv hr=>
      refine h2 α _ f hr (fun t=>?_) fun j u hu=>?_
      · show ∃ y,(bif Nat.beq t i then S.v x else eget tm t)=.v y∧_
        cases hb:Nat.beq t i
        · exact ht t
        · have:t=i:=beq hb
          subst this
          refine⟨x,rfl,?_⟩
          rw [show f t=_ from hf 0 _ rfl]
          exact hv
      · rw [show i+1+j=i+(j+1)by omega]
        exact hf (j+1) u (by simpa using hu)
theorem func_sound {f : FuncId} {fn : Func} {c : Code} {n : Nat} {args : A} {v r : A} {h' : H} (hm : P.follows .mixedOrders = true) (hf : P.funcs[f]? = some fn) (hb : fn.body = some c) (hnm : (fn.name == "runtime.NumGoroutine") = false)
    (hΓ:Γ.T=TT) (hnt:Γ.nt=fn.ntmps) (hrs:Γ.rs=fn.results.toList) (hT:TabOK P TT) (hB:TabB P TT) (hF:TabF P TT) (hk:CallOK P W0 k) (hl:(denF Γ n c k args h).lf=some (1,.cn v r,h')):
    FnOK P f∧∀(α:Al) (w:World) (cargs:List Value),HR W0 α w h→RepL α cargs args→Calls P f ⟨cargs⟩ w (fun e w'=>∃ u α',e=.returned u∧Step W0 α w h α' w' h'∧Rep α' u v):=by
  refine⟨⟨fn,hf,hnm,by rw [hb];rfl⟩,fun α w cargs hr hargs=>?_⟩
  rcases bb_lf hl with ⟨_,hl⟩|⟨_,hl⟩
  · obtain⟨tm,hl,ht0,ht⟩:=args_lf _ _ _ _ _ hl
    refine calls_of_wp hf hb ?_
    have hsz:fn.ntmps≤((⟨cargs⟩:Array Value)++Array.replicate (fn.ntmps-(⟨cargs⟩:Array Value).size) undef).size:=by simp;omega
    have hst:ST W0 fn.ntmps α w h ⟨tm,[],[]⟩ h { tmps:=(⟨cargs⟩:Array Value)++Array.replicate (fn.ntmps-(⟨cargs⟩:Array Value).size) undef,defers:=[] } w:=by
      refine⟨α,fun _=>none,⟨rfl,hsz,fun t=>?_,(fun b n hb=>by cases hb),(fun b k hb=>by cases hb),(fun b b2 k hb=>by cases hb)⟩,.refl hr⟩
      obtain⟨x,e1,e2⟩:=ht α cargs (fun t=>((⟨cargs⟩:Array Value)++Array.replicate (fn.ntmps-(⟨cargs⟩:Array Value).size) undef).getD t undef) hargs (fun t=>⟨junk,rfl,.unk _⟩) (fun j u hu=>by
        have hj:j<cargs.length:=by
          rcases Nat.lt_or_ge j cargs.length with h|h
          · exact h
          · rw [List.getElem?_eq_none h]at hu;cases hu
        rw [Nat.zero_add,Array.getD_eq_getD_getElem?,Array.getElem?_append_left (by simpa using hj)]
        simp [hu]) t
      show SR α _ _ t (eget tm t)
      rw [e1];exact e2
    refine wp_mono (den_sound hm hΓ hnt hT hB hF hk hr.agr.size c 0 [] _ h _ _ hl (fun t g u b q e=>?_) _ w hst) fun ex a' w' hp=>?_
    · obtain⟨x,e1⟩:=ht0 (fun t=>⟨junk,rfl⟩) t
      have e:eget tm t=_:=e
      rw [e1]at e;cases e
    · have key:∀ env' h'',ST W0 fn.ntmps α w h env' h'' a' w'→(retR Γ env' h'').lf=some (1,.cn v r,h')→a'.defers=[]∧∃ u,(results fn a'.tmps).run P w'=.ok u w'∧∃ u' α',Ending.returned u=.returned u'∧Step W0 α w h α' w' h'∧Rep α' u' v:=fun env' h'' hs hl=>by
        obtain⟨α',β',s1,s2⟩:=hs
        obtain⟨v',r',e,hres⟩:=retR_sound (W0:=W0) (P:=P) (n0:=w.heap.size) (nt:=fn.ntmps) hΓ hT hrs hl
        cases e
        obtain⟨u,u1,u2⟩:=hres α' β' w' a' s1 s2.hr
        exact⟨s1.defers,u,u1,u,α',rfl,s2,u2⟩
      cases ex with
      |normal=>
        obtain⟨env',h'',_,p1,p2⟩:=hp
        exact key env' h'' p2 p1
      |ret=>
        obtain⟨env',h'',p1,p2⟩:=hp
        exact key env' h'' p1 p2
      |exit i=>obtain⟨L,_,hL,_⟩:=hp;cases hL
      |_=>exact hp.elim
  · exact bad_lf hl
end
end Go.X1

set_option maxRecDepth 100000
namespace Go.X1
variable [Nu]
def FnAns (P:Program)(W0:World)(f:Nat)(F:A→H→R):Prop:=∀(a:A) (h:H) (v r:A) (h':H),(F a h).lf=some (1,.cn v r,h')→
  FnOK P f∧∀(α:Al) (w:World) (args:List Value),HR W0 α w h→RepL α args a→Calls P f ⟨args⟩ w (fun e w'=>∃ u α',e=.returned u∧Step W0 α w h α' w' h'∧Rep α' u v)
theorem leaf_lf {P:Prop}{f n:Nat}{F:A→H→R}{a:A}{h:H}{lf:Nat×A×H}(hl:R.lf (@Bool.rec (fun _=>A→H→R) (fun _ _=>.bad) F (Nat.beq f n) a h)=some lf)(hp:f=n→(F a h).lf=some lf→P):P:=by
  cases hb:Nat.beq f n
  · rw [hb]at hl;exact bad_lf hl
  · rw [hb]at hl;exact hp (beq hb) hl
theorem node_lf {P:Prop}{x y:A→H→R}{c:Bool}{a:A}{h:H}{lf:Nat×A×H}(hl:R.lf (@Bool.rec (fun _=>A→H→R) x y c a h)=some lf)(hx:(x a h).lf=some lf→P)(hy:(y a h).lf=some lf→P):P:=by
  cases c
  · exact hx hl
  · exact hy hl
theorem callOK_zero (P:Program)(W0:World):CallOK P W0 (fun _ _ _=>.bad):=fun f a h v r h' hl=>bad_lf hl
section
variable {P:Program} {W0:World} {α:Al} {w w':World} {h:H} {lf:Nat×A×H}
theorem step_agree (hr:HR W0 α w h)(A:Agree w w'):Step W0 α w h α w' h:=
  ⟨HR.other (w':=w') (fun k ⟨b,L,e,hk⟩=>A.heap k (by rw [← hk];exact(hr.dom b L e).2.2)) (hr.agr.trans A) A.size hr,.refl _ _ _,⟨A.size,fun k hk _=>A.heap k hk,A.os,A.out⟩,.refl _,fun _ _ _=>rfl⟩
theorem pow8 (n:Nat):2 ^ (8 * n)=256 ^ n:=by rw [Nat.pow_mul]
theorem digit_nat {i:Nat}(h:i<10):(UInt8.ofNat (48+i)).toNat=48+i:=by
  rw [UInt8.toNat_ofNat'];exact Nat.mod_eq_of_lt (by omega)
theorem encB_cons (b:UInt8)(l:List UInt8):encB (b::l)=b.toNat+encB l * 256:=rfl
theorem digs_lf:∀(f m:Nat) (l:List UInt8) (c:Nat→Nat→R),(digs f m l.length (encB l) c).lf=some lf→(c (Lib.decDigits m++l).length (encB (Lib.decDigits m++l))).lf=some lf
  |0,m,l,c,hl=>bad_lf hl
  |f+1,m,l,c,hl=>by
    rcases rec_lf hl with ⟨h1,hl⟩|⟨h1,hl⟩
    · have h1:m<10:=blt h1
      have e:Lib.decDigits m++l=UInt8.ofNat (48+m)::l:=by rw [Lib.decDigits_one h1];rfl
      rw [e]
      have e2:encB (UInt8.ofNat (48+m)::l)=Nat.add (Nat.mul 256 (encB l)) (Nat.add 48 m):=by
        rw [encB_cons,digit_nat h1]
        show _=256 * encB l+(48+m)
        omega
      rw [e2]
      exact hl
    · have h1:¬ m<10:=fun h=>by
        have:Nat.blt m 10=true:=Nat.ble_eq_true_of_le h
        rw [this]at h1;cases h1
      have h2:m % 10<10:=Nat.mod_lt _ (by decide)
      have e2:encB (UInt8.ofNat (48+m % 10)::l)=Nat.add (Nat.mul 256 (encB l)) (Nat.add 48 (Nat.mod m 10)):=by
        rw [encB_cons,digit_nat h2]
        show _=256 * encB l+(48+m % 10)
        omega
      have:=digs_lf f (m / 10) (UInt8.ofNat (48+m % 10)::l) c (by rw [e2];exact hl)
      have e:Lib.decDigits m++l=Lib.decDigits (m / 10)++(UInt8.ofNat (48+m % 10)::l):=by
        rw [Lib.decDigits,dif_neg h1];simp
      rw [e];exact this
theorem oEnd_lf {x:A}{r:R}(hl:(oEnd x r).lf=some lf):x=.nl∧r.lf=some lf:=by
  cases x with
  |nl=>exact⟨rfl,hl⟩
  |_=>cases hl
theorem itoa_small {n:Nat}(h:n≤999):Lib.itoa (n:Int)=itB n:=by
  have e:Lib.itoa (n:Int)=Lib.decDigits n:=by
    unfold Lib.itoa
    rw [if_neg (by omega)]
    rfl
  rw [e]
  unfold itB
  by_cases h1:n<10
  · rw [if_pos h1,Lib.decDigits_one h1]
  · rw [if_neg h1]
    by_cases h2:n<100
    · rw [if_pos h2,Lib.decDigits,dif_neg h1,Lib.decDigits_one (by omega)];rfl
    · rw [if_neg h2,Lib.decDigits,dif_neg h1,Lib.decDigits,dif_neg (by omega),Lib.decDigits_one (by omega),show n / 10 / 10=n / 100 by omega];rfl
theorem itoaC_ans {f:Nat}(hI:∀(n:Int)(w:World), -9223372036854775808≤n→n≤9223372036854775807→Agree W0 w→Calls P f #[.int .i64 n] w (fun e w'=>e=.returned (.string ⟨(Lib.itoa n).toArray⟩)∧Agree w w')){n:Nat}{h h':H}{v r:A}(hl:(itoaC n h).lf=some (1,.cn v r,h')):
    ∀(α:Al) (w:World) (u:Value),HR W0 α w h→Rep α u (.int n)→Calls P f #[u] w (fun e w'=>∃ u α',e=.returned u∧Step W0 α w h α' w' h'∧Rep α' u v):=by
  obtain⟨g1,hl⟩:=oCk_lf hl
  have g1:n≤18446744073709551615:=ble g1
  have key:∀(m:Int),m+9223372036854775808=n→v=.str (Lib.itoa m).length (encB (Lib.itoa m))∧h'=h:=fun m hm=>by
    unfold Lib.itoa
    rcases rec_lf hl with ⟨h1,hl⟩|⟨h1,hl⟩
    · have h1:9223372036854775808≤n:=ble h1
      have:=digs_lf 30 _ [] _ hl
      cases this
      rw [if_neg (by omega),List.append_nil,show Nat.sub n 9223372036854775808=m.toNat from by show n-9223372036854775808=_;omega]
      exact⟨rfl,rfl⟩
    · have h1:¬ 9223372036854775808≤n:=fun h=>by rw [Nat.ble_eq_true_of_le h]at h1;cases h1
      have:=digs_lf 30 _ [] _ hl
      cases this
      rw [if_pos (by omega),List.append_nil,show Nat.sub 9223372036854775808 n=m.natAbs from by show 9223372036854775808-n=_;omega]
      refine⟨?_,rfl⟩
      rw [encB_cons,List.length_cons]
      congr 1
      show 45+256 * _=45+_ * 256
      omega
  intro α w u hr hv
  obtain⟨m,rfl,hm⟩:=rep_int hv
  obtain⟨rfl,rfl⟩:=key m hm
  refine(hI m w (by omega) (by omega) hr.agr).mono ?_
  rintro e w' ⟨rfl,A⟩
  exact⟨_,α,rfl,step_agree hr A,.str (by simp) (by simp)⟩
theorem itoa_ans {f:Nat}{k:K}(hf:FnOK P f)(hI:∀(n:Int)(w:World), -9223372036854775808≤n→n≤9223372036854775807→Agree W0 w→Calls P f #[.int .i64 n] w (fun e w'=>e=.returned (.string ⟨(Lib.itoa n).toArray⟩)∧Agree w w')):FnAns P W0 f (fItoa k):=fun a h v r h' hl=>by
  obtain⟨x,t,rfl,hl⟩:=oCn_lf hl
  obtain⟨rfl,hl⟩:=oEnd_lf hl
  refine⟨hf,fun α w args hr hargs=>?_⟩
  match args,hargs with
  | [u],.cons hv .nil=>
    rcases oIntE_lf hl with ⟨n,rfl,hq⟩|⟨g,b,m,i,rfl,hq⟩
    · exact itoaC_ans hI hq α w u hr hv
    · rcases rec_lf hq with ⟨hb,hq⟩|⟨_,hq⟩
      · obtain⟨hg,hq⟩:=oCk_lf hq
        have hb:b=10:=beq hb
        have hg:g=8:=beq hg
        subst hb;subst hg
        cases hq
        obtain⟨rfl,q1,q2⟩:=rep_hf hv
        have:=hf_le q1 q2
        refine(hI _ w (by omega) (by omega) hr.agr).mono ?_
        rintro e w' ⟨rfl,A⟩
        refine⟨_,α,rfl,step_agree hr A,.pst ?_⟩
        have:=Pcs.tx q1 q2 Pcs.nil
        rw [List.append_nil]at this
        have e:Lib.itoa ((Nu.val m * Nu.val i / 2:Nat):Int)=Lib.decDigits (Nu.val m * Nu.val i / 2):=by
          unfold Lib.itoa
          rw [if_neg (by omega)]
          rfl
        rw [e]
        exact this
      · obtain⟨rfl,rfl,hl'⟩:=oSy_lf hq
        cases hl'
        obtain⟨rfl,q1,q2⟩:=rep_sm hv
        refine(hI _ w (by omega) (by omega) hr.agr).mono ?_
        rintro e w' ⟨rfl,A⟩
        refine⟨_,α,rfl,step_agree hr A,.pst ?_⟩
        rw [itoa_small (by omega)]
        have:=Pcs.it (i:=i) (by omega) Pcs.nil
        simpa using this
theorem dget_lf {l:List (Nat×Nat)}{i:Nat}{k:Nat→R}(hl:(dget l i k).lf=some lf):∃ d,(i,d)∈l∧(k d).lf=some lf:=by
  induction l with
  |nil=>exact bad_lf hl
  |cons p l ih=>
    have hl:R.lf (@Bool.rec (fun _=>R) (dget l i k) (k p.2) (Nat.beq p.1 i))=some lf:=hl
    rcases rec_lf hl with ⟨h1,hl⟩|⟨_,hl⟩
    · have h1:p.1=i:=beq h1
      exact⟨p.2,by rw [← h1];exact .head _,hl⟩
    · obtain⟨d,h1,h2⟩:=ih hl
      exact⟨d,.tail _ h1,h2⟩
theorem digL_pcs {i:Nat}(hv:Nu.val i≤999):∀(d j:Nat) (l:List UInt8),(itB (Nu.val i)).drop j=l→l.length=d→Pcs l (digL i d j)
  |0,j,l,_,h2=>by rw [List.eq_nil_of_length_eq_zero h2];exact .nil
  |d+1,j,[],_,h2=>by cases h2
  |d+1,j,b::l,h1,h2=>by
    show Pcs (b::l) (.cn (.ref 8 3 j i) (digL i d (j+1)))
    refine .dg hv ?_ (digL_pcs hv d (j+1) l ?_ (by simpa using h2))
    · have:=congrArg (·[0]?) h1
      simpa using this
    · have:=congrArg (List.drop 1) h1
      simpa [List.drop_drop]using this
theorem itoaD_ans {f:Nat}{k:K}{dt:List (Nat×Nat)}(hdt:∀ i d,(i,d)∈dt→(itB (Nu.val i)).length=d)(hf:FnOK P f)(hI:∀(n:Int)(w:World), -9223372036854775808≤n→n≤9223372036854775807→Agree W0 w→Calls P f #[.int .i64 n] w (fun e w'=>e=.returned (.string ⟨(Lib.itoa n).toArray⟩)∧Agree w w')):FnAns P W0 f (fItoaD dt k):=fun a h v r h' hl=>by
  obtain⟨x,t,rfl,hl⟩:=oCn_lf hl
  obtain⟨rfl,hl⟩:=oEnd_lf hl
  refine⟨hf,fun α w args hr hargs=>?_⟩
  match args,hargs with
  | [u],.cons hv .nil=>
    rcases oIntE_lf hl with ⟨n,rfl,hq⟩|⟨g,b,m,i,rfl,hq⟩
    · exact itoaC_ans hI hq α w u hr hv
    · obtain⟨rfl,rfl,hl'⟩:=oSy_lf hq
      obtain⟨d,hd,hl2⟩:=dget_lf hl'
      cases hl2
      obtain⟨rfl,q1,q2⟩:=rep_sm hv
      refine(hI _ w (by omega) (by omega) hr.agr).mono ?_
      rintro e w' ⟨rfl,A⟩
      refine⟨_,α,rfl,step_agree hr A,.pst ?_⟩
      rw [itoa_small (by omega)]
      exact digL_pcs (by omega) d 0 _ (by simp) (by simpa using hdt i d hd)
theorem undig_lf:∀(l:List UInt8) (a:Nat) (c:Nat→R) (no:R),(undig l.length (encB l) a c no).lf=some lf→(match Lib.decFrom a l with |some m=>(c m).lf|none=>no.lf)=some lf
  | [],a,c,no,hl=>hl
  |b::l,a,c,no,hl=>by
    have e1:Nat.mod (encB (b::l)) 256=b.toNat:=by
      show(b.toNat+encB l * 256) % 256=_
      have:=b.toNat_lt
      omega
    have e2:Nat.div (encB (b::l)) 256=encB l:=by
      show(b.toNat+encB l * 256) / 256=_
      have:=b.toNat_lt
      omega
    have hl:R.lf (@Bool.rec (fun _=>R) no (@Bool.rec (fun _=>R) no (undig l.length (Nat.div (encB (b::l)) 256) (Nat.add (Nat.mul 10 a) (Nat.sub (Nat.mod (encB (b::l)) 256) 48)) c no) (Nat.ble (Nat.mod (encB (b::l)) 256) 57)) (Nat.ble 48 (Nat.mod (encB (b::l)) 256)))=some lf:=hl
    rw [e1,e2]at hl
    unfold Lib.decFrom Lib.digitVal
    rcases rec_lf hl with ⟨h1,hl⟩|⟨h1,hl⟩
    · have h1:48≤b.toNat:=ble h1
      rcases rec_lf hl with ⟨h2,hl⟩|⟨h2,hl⟩
      · have h2:b.toNat≤57:=ble h2
        rw [if_pos ⟨h1,h2⟩]
        have:=undig_lf l _ c no hl
        have e:Nat.add (Nat.mul 10 a) (Nat.sub b.toNat 48)=a * 10+(b.toNat-48):=by show 10 * a+(b.toNat-48)=_;omega
        rw [e]at this
        exact this
      · rw [if_neg fun h=>by rw [Nat.ble_eq_true_of_le h.2]at h2;cases h2]
        exact hl
    · rw [if_neg fun h=>by rw [Nat.ble_eq_true_of_le h.1]at h1;cases h1]
      exact hl
theorem dec_cases {l:List UInt8}{c:Nat→R}{no:R}(hl:(match Lib.decFrom 0 l with |some m=>(c m).lf|none=>no.lf)=some lf):(∃ m,Lib.decFrom 0 l=some m∧(c m).lf=some lf)∨(Lib.decFrom 0 l=none∧no.lf=some lf):=by
  cases h:Lib.decFrom 0 l with
  |none=>rw [h]at hl;exact .inr ⟨rfl,hl⟩
  |some m=>rw [h]at hl;exact .inl ⟨m,rfl,hl⟩
theorem dec_bound:∀(l:List UInt8) (a m:Nat),Lib.decFrom a l=some m→m<(a+1) * 10 ^ l.length
  | [],a,m,h=>by cases h;simp
  |b::l,a,m,h=>by
    unfold Lib.decFrom Lib.digitVal at h
    split at h
    · rename_i d hd
      split at hd
      · cases hd
        have:=dec_bound l _ m h
        rw [List.length_cons,Nat.pow_succ]
        have e:(a+1) * (10 ^ l.length * 10)=((a+1) * 10) * 10 ^ l.length:=by rw [Nat.mul_comm (10 ^ l.length) 10,Nat.mul_assoc]
        rw [e]
        exact Nat.lt_of_lt_of_le this (Nat.mul_le_mul_right _ (by omega))
      · cases hd
    · cases h
theorem atoi_lf {l:List UInt8}{h:H}{k:K}{v r:A}{h':H}(hl:(fAtoi k (.cn (.str l.length (encB l)) .nl) h).lf=some (1,.cn v r,h')):l.length≤18∧h'=h∧
    ((∃ m:Int,Lib.atoi l=some m∧∃ n:Nat,m+9223372036854775808=n∧v=.nd 1 (.cn (.int n) (.cn (.ref 6 0 0 0) .nl)))∨(Lib.atoi l=none∧v=.nd 1 (.cn (.int 9223372036854775808) (.cn (.ref 7 0 0 0) .nl)))):=by
  have hl:(oCk (Nat.ble l.length 18) _).lf=some _:=hl
  obtain⟨g1,hl⟩:=oCk_lf hl
  have g1:l.length≤18:=ble g1
  refine⟨g1,?_⟩
  cases l with
  |nil=>cases hl;exact⟨rfl,.inr ⟨rfl,rfl⟩⟩
  |cons b l=>
    have e1:Nat.mod (encB (b::l)) 256=b.toNat:=by
      show(b.toNat+encB l * 256) % 256=_
      have:=b.toNat_lt
      omega
    have e2:Nat.div (encB (b::l)) 256=encB l:=by
      show(b.toNat+encB l * 256) / 256=_
      have:=b.toNat_lt
      omega
    have hb:∀(m:Nat) (l:List UInt8),l.length≤18→Lib.decFrom 0 l=some m→m≤1000000000000000000:=fun m l hlen hd=>by
      have h1:=dec_bound l 0 m hd
      have h2:10 ^ l.length≤10 ^ 18:=Nat.pow_le_pow_right (by decide) hlen
      omega
    rcases rec_lf hl with ⟨h43,hl⟩|⟨h43,hl⟩
    · rw [e1]at h43
      have h43:b=43:=UInt8.toNat_inj.1 (beq h43)
      rcases rec_lf hl with ⟨h1,hl⟩|⟨_,hl⟩
      · have:(b::l).length=1:=beq h1
        have:l=[]:=List.eq_nil_of_length_eq_zero (by simpa using this)
        subst this
        subst h43
        cases hl
        exact⟨rfl,.inr ⟨rfl,rfl⟩⟩
      · exact bad_lf hl
    rw [e1]at h43
    rw [e2]at hl
    have h43:b≠43:=fun e=>by rw [e]at h43;cases h43
    rcases rec_lf hl with ⟨h45,hl⟩|⟨h45,hl⟩<;>rw [e1]at h45
    · have h45:b=45:=UInt8.toNat_inj.1 (beq h45)
      have ha:Lib.atoi (b::l)=(Lib.decNat l).map fun(m:Nat)=> -(m:Int):=by
        unfold Lib.atoi;rw [h45];rfl
      rw [ha]
      rcases rec_lf hl with ⟨h1,hl⟩|⟨h1,hl⟩
      · have:(b::l).length=1:=beq h1
        have:l=[]:=List.eq_nil_of_length_eq_zero (by simpa using this)
        subst this
        cases hl
        exact⟨rfl,.inr ⟨rfl,rfl⟩⟩
      · have hne:l.isEmpty=false:=by
          cases l with
          |nil=>cases h1
          |cons _ _=>rfl
        have hd:Lib.decNat l=Lib.decFrom 0 l:=by unfold Lib.decNat;rw [hne];rfl
        rw [hd]
        rcases dec_cases (undig_lf l 0 _ _ hl)with ⟨m,d1,hl⟩|⟨d1,hl⟩
        · cases hl
          have:=hb m l (by simp at g1;omega) d1
          exact⟨rfl,.inl ⟨_,by rw [d1];rfl,_,by show -(m:Int)+9223372036854775808=((9223372036854775808-m:Nat):Int);omega,rfl⟩⟩
        · cases hl
          exact⟨rfl,.inr ⟨by rw [d1];rfl,rfl⟩⟩
    · have h45:b≠45:=fun e=>by rw [e]at h45;cases h45
      have ha:Lib.atoi (b::l)=(Lib.decFrom 0 (b::l)).map fun(m:Nat)=>(m:Int):=by
        have c1:(b == 45)=false:=by simpa using h45
        have c2:(b == 43)=false:=by simpa using h43
        unfold Lib.atoi
        simp only [c1,c2]
        rfl
      rw [ha]
      rcases dec_cases (undig_lf (b::l) 0 _ _ hl)with ⟨m,d1,hl⟩|⟨d1,hl⟩
      · cases hl
        exact⟨rfl,.inl ⟨_,by rw [d1];rfl,_,by show(m:Int)+9223372036854775808=((9223372036854775808+m:Nat):Int);omega,rfl⟩⟩
      · cases hl
        exact⟨rfl,.inr ⟨by rw [d1];rfl,rfl⟩⟩
theorem atoi_ans {f:Nat}{k:K}(hf:FnOK P f)(h1:∀(s:ByteArray)(n:Int)(w:World),s.size≤18→Lib.atoi s.data.toList=some n→Agree W0 w→Calls P f #[.string s] w (fun e w'=>e=.returned (.tuple #[.int .i64 n,.nilIface])∧Agree w w'))
    (h2:∀(s:ByteArray) (w:World),s.size≤18→Lib.atoi s.data.toList=none→Agree W0 w→Calls P f #[.string s] w (fun e w'=>(∃ t v,e=.returned (.tuple #[.int .i64 0,.iface t v]))∧Agree w w')):FnAns P W0 f (fAtoi k):=fun a h v r h' hl=>by
  have hl0:=hl
  obtain⟨x,t,rfl,hl⟩:=oCn_lf hl
  obtain⟨rfl,hl⟩:=oEnd_lf hl
  obtain⟨n,N,rfl,hl⟩:=oStr_lf hl
  refine⟨hf,fun α w args hr hargs=>?_⟩
  match args,hargs with
  | [u],.cons hv .nil=>
    obtain⟨s,rfl,e1,e2⟩:=rep_str hv
    rw [← e1,← e2]at hl0
    obtain⟨g1,rfl,g2⟩:=atoi_lf hl0
    have hsz:s.size≤18:=by rw [bsize];exact g1
    rcases g2 with ⟨m,m1,n,m2,rfl⟩|⟨m1,rfl⟩
    · refine(h1 s m w hsz m1 hr.agr).mono ?_
      rintro e w' ⟨rfl,A⟩
      exact⟨_,α,rfl,step_agree hr A,.tup (.cons (.int m2) (.cons (.ref .nif) .nil))⟩
    · refine(h2 s w hsz m1 hr.agr).mono ?_
      rintro e w' ⟨⟨t,v,rfl⟩,A⟩
      exact⟨_,α,rfl,step_agree hr A,.tup (.cons (.int rfl) (.cons (.ref .err) .nil))⟩
theorem joinL_lf {sep:List UInt8}:∀(l:A) (vs:List Value) (acc:List UInt8) (c:Nat→Nat→R),RepL α vs l→(joinL l sep.length (encB sep) acc.length (encB acc) c).lf=some lf→
    ∃ xs:List ByteArray,vs=xs.map .string∧(c (acc++Lib.joinTail sep (xs.map (·.data.toList))).length (encB (acc++Lib.joinTail sep (xs.map (·.data.toList))))).lf=some lf
  |.nl,_,acc,c,.nil,hl=>by
    have hl:(c acc.length (encB acc)).lf=some lf:=hl
    exact⟨[],rfl,by simpa [Lib.joinTail]using hl⟩
  |.cn x l,_,acc,c,.cons hv ht,hl=>by
    obtain⟨p,Q,rfl,hl⟩:=oStr_lf hl
    obtain⟨s,rfl,e1,e2⟩:=rep_str hv
    have e3:(acc++(sep++s.data.toList)).length=Nat.add acc.length (Nat.add sep.length p):=by rw [← e1];simp
    have e4:encB (acc++(sep++s.data.toList))=Nat.add (encB acc) (Nat.mul (Nat.add (encB sep) (Nat.mul Q (Nat.pow 2 (Nat.mul 8 sep.length)))) (Nat.pow 2 (Nat.mul 8 acc.length))):=by
      rw [encB_app,encB_app,e2]
      show _=encB acc+(encB sep+Q * 2 ^ (8 * sep.length)) * 2 ^ (8 * acc.length)
      rw [pow8,pow8]
    have hl:(joinL l sep.length (encB sep) (Nat.add acc.length (Nat.add sep.length p)) (Nat.add (encB acc) (Nat.mul (Nat.add (encB sep) (Nat.mul Q (Nat.pow 2 (Nat.mul 8 sep.length)))) (Nat.pow 2 (Nat.mul 8 acc.length)))) c).lf=some lf:=hl
    rw [← e3,← e4]at hl
    obtain⟨xs,h1,h2⟩:=joinL_lf l _ (acc++(sep++s.data.toList)) c ht hl
    refine⟨s::xs,by rw [h1];rfl,?_⟩
    have e5:acc++Lib.joinTail sep ((s::xs).map (·.data.toList))=acc++(sep++s.data.toList)++Lib.joinTail sep (xs.map (·.data.toList)):=by simp [Lib.joinTail]
    rw [e5];exact h2
theorem join_ans {f:Nat}{k:K}(hf:FnOK P f)(h1:∀(a:Option Addr)(c:Nat)(sep:ByteArray)(w:World),Agree W0 w→Calls P f #[.slice a 0 c,.string sep] w (fun e w'=>e=.returned (.string ⟨#[]⟩)∧Agree w w'))
    (h2:∀(bk o c:Nat) (xs:List ByteArray) (sep:ByteArray) (w:World),(∀ (j:Nat) x,xs[j]? =some x→w.cell? ⟨bk,o+j,none⟩=some (.string x))→bk<w.heap.size→xs.length≤1000000→xs.length≤c→(Lib.join (xs.map (·.data.toList)) sep.data.toList).length≤1000000→Agree W0 w→
      Calls P f #[.slice (some ⟨bk,o,none⟩) xs.length c,.string sep] w (fun e w'=>e=.returned (.string ⟨(Lib.join (xs.map (·.data.toList)) sep.data.toList).toArray⟩)∧Agree w w')):FnAns P W0 f (fJoin k):=fun a h v r h' hl=>by
  obtain⟨s,t,rfl,hl1⟩:=oCn_lf hl
  obtain⟨sp,t2,rfl,hl2⟩:=oCn_lf hl1
  obtain⟨rfl,hl3⟩:=oEnd_lf hl2
  obtain⟨m,M,rfl,hl4⟩:=oStr_lf hl3
  obtain⟨n,l,hl5,hlen,hcells⟩:=oCells_sound (P:=P) (Nat.lt_succ_self 0) hl4
  obtain⟨hn1,hl⟩:=oCk_lf hl5
  obtain⟨sg,sb,so,sn,hs,hl6⟩:=oRef_lf hl4
  have hsg:sg=3∨sg=11:=by
    rcases rec_lf hl6 with ⟨q,_⟩|⟨_,q⟩
    · exact .inl (beq q)
    · exact .inr (beq (oCk_lf q).1)
  clear hl1 hl2 hl3 hl4 hl5 hl6
  refine⟨hf,fun α w args hr hargs=>?_⟩
  match args,hargs with
  | [u,u2],.cons hv (.cons hv2 .nil)=>
    obtain⟨sep,rfl,e1,e2⟩:=rep_str hv2
    rcases hcells h (Mono.refl h) W0 α w u hr hv with ⟨rfl,rfl,rfl⟩|⟨ad,cp,vs,rfl,hc,hcell⟩
    · cases hl
      refine(h1 none 0 sep w hr.agr).mono ?_
      rintro e w' ⟨rfl,A⟩
      exact⟨_,α,rfl,step_agree hr A,.str rfl rfl⟩
    · have hrep:=hc.rep
      have hlen:=hc.len
      rw [Nat.mul_one]at hlen
      cases l with
      |nl=>
        cases hl
        cases hrep
        have hn:n=0:=hlen.symm
        subst hn
        refine(h1 (some ad) cp sep w hr.agr).mono ?_
        rintro e w' ⟨rfl,A⟩
        exact⟨_,α,rfl,step_agree hr A,.str rfl rfl⟩
      |cn x l=>
        obtain⟨p,Q,rfl,hl⟩:=oStr_lf hl
        cases hrep with
        |cons hx ht=>
        rename_i vx vr
        obtain⟨s0,rfl,f1,f2⟩:=rep_str hx
        rw [← e1,← e2,← f1,← f2]at hl
        obtain⟨xs,x1,hl⟩:=joinL_lf l _ s0.data.toList _ ht hl
        obtain⟨g1,hl⟩:=mkS_lf hl
        cases hl
        have hj:s0.data.toList++Lib.joinTail sep.data.toList (xs.map (·.data.toList))=Lib.join ((s0::xs).map (·.data.toList)) sep.data.toList:=by
          rw [List.map_cons,Lib.join_cons]
        rw [hj]at g1 ⊢
        have hxs:Value.string s0::vr=(s0::xs).map .string:=by rw [x1];rfl
        have hn:n=(s0::xs).length:=by rw [← hlen,hxs,List.length_map]
        have had:∃ bk o,ad=⟨bk,o,none⟩∧bk<w.heap.size∧n≤cp:=by
          have hpos:0<n:=by rw [hn];simp
          rw [hs]at hv
          cases hv with
          |ref hv=>
            generalize hsl:Value.slice (some ad) n cp=z at hv
            cases hv with
            |sl hL hg hz ho hnn hcc hadd=>
              cases hsl
              rcases hadd with h0|h0
              · omega
              · exact⟨_,_,h0,(hr.dom _ _ hL).2.2,hnn⟩
            |inp=>omega
            |_=>cases hsl
        obtain⟨bk,o,rfl,hbk,hcp⟩:=had
        have hcj:∀(j:Nat) y,(s0::xs)[j]? =some y→w.cell? ⟨bk,o+j,none⟩=some (.string y):=fun j y hy=>by
          rw [← addr_add]
          refine hcell j _ ?_
          rw [hxs,List.getElem?_map,hy];rfl
        have h11:(s0::xs).length≤1000000:=by
          have h5:n≤1000000:=ble hn1
          omega
        rw [hn]at hcp ⊢
        refine(h2 bk o cp (s0::xs) sep w hcj hbk h11 hcp g1 hr.agr).mono ?_
        rintro e w' ⟨rfl,A⟩
        exact⟨_,α,rfl,step_agree hr A,.str (by simp) (by simp)⟩
      |_=>exact bad_lf hl
end
end Go.X1

set_option maxRecDepth 100000
namespace Go.X1
variable [Nu]
section
variable {P:Program} {TT:List TI} {W0:World} {k:K}
theorem tabB_of (h:(List.range TT.length).all (fun t=>match TT[t]? with |some i=>Nat.ble (P.bytesOf t) 1000000&&(Nat.beq i.size 0||Nat.beq i.zero.length i.size)&&(i.agg||Nat.beq i.size 1)|none=>true)=true):TabB P TT:=by
  intro t i hi
  have ht:t<TT.length:=by
    rcases Nat.lt_or_ge t TT.length with h|h
    · exact h
    · rw [List.getElem?_eq_none h]at hi;cases hi
  have:=List.all_eq_true.1 h t (List.mem_range.2 ht)
  rw [hi]at this
  simp only [Bool.and_eq_true,Bool.or_eq_true,Nat.beq_eq,Nat.ble_eq]at this
  obtain⟨⟨h1,h2⟩,h3⟩:=this
  exact⟨h1,fun h=>h2.resolve_left h,fun h=>h3.resolve_left (by rw [h];simp)⟩
def noAgg:Option Value→Bool
  |some (.agg _)=>false
  |_=>true
theorem tabZ_of (h:(List.range TT.length).all (fun t=>match TT[t]? with |some i=>i.agg||noAgg ((P.info? t).bind (·.zero))|none=>true)=true):TabZ P TT:=by
  intro t i hi ha z hz
  have ht:t<TT.length:=by
    rcases Nat.lt_or_ge t TT.length with h|h
    · exact h
    · rw [List.getElem?_eq_none h]at hi;cases hi
  have:=List.all_eq_true.1 h t (List.mem_range.2 ht)
  rw [hi]at this
  simp only [ha,hz,Bool.false_or]at this
  cases z with
  |agg _=>cases this
  |_=>rfl
theorem tabF_of (h:TT.all (fun i=>match i.kind with |.struct fs=>fs.all (fun f=>(TT[f.2]?).isSome)|_=>true)=true)(hz:(List.range TT.length).all (fun t=>match TT[t]? with |some i=>i.agg||noAgg ((P.info? t).bind (·.zero))|none=>true)=true):TabF P TT:=by
  refine⟨?_,tabZ_of hz⟩
  intro t i fs hi hk f hf
  have:=List.all_eq_true.1 h i (List.mem_of_getElem? hi)
  rw [hk]at this
  exact List.all_eq_true.1 this f hf
theorem fnAns_of {Γ : Cx} {n : Nat} {c : Code} {F : K → A → H → R} {f : FuncId} {fn : Func} (e : denF Γ n c = F) (hf : P.funcs[f]? = some fn) (hb : fn.body = some c) (hnm : (fn.name == "runtime.NumGoroutine") = false)
    (hΓ:Γ.T=TT) (hnt:Γ.nt=fn.ntmps) (hrs:Γ.rs=fn.results.toList) (hm:P.follows .mixedOrders=true) (hT:TabOK P TT) (hB:TabB P TT) (hF:TabF P TT) (hk:CallOK P W0 k):FnAns P W0 f (F k):=fun a h v r h' hl=>
  func_sound hm hf hb hnm hΓ hnt hrs hT hB hF hk (by rw [e];exact hl)
theorem isT_lf {r:R}(h:isT r=true):∃ t h',r.lf=some (1,.cn (.bool true) t,h'):=by
  cases r with
  |bad=>cases h
  |go e vs h1=>
    cases hb:Nat.beq e 1
    · have h:(@Bool.rec (fun _=>Bool) false _ (Nat.beq e 1))=true:=h
      rw [hb]at h;cases h
    · have h:(@Bool.rec (fun _=>Bool) false _ (Nat.beq e 1))=true:=h
      rw [hb]at h
      have he:e=1:=beq hb
      subst he
      cases vs with
      |cn x t=>
        cases x with
        |bool b=>
          have h:b=true:=h
          subst h
          exact⟨t,h1,rfl⟩
        |_=>cases h
      |_=>cases h
theorem hr_empty (W0:World):HR W0 (fun _=>none) W0 (.mk .lf 0 0):=
  ⟨.refl W0,Nat.le_refl _,rfl,(fun _ _ e=>by cases e),(fun _ _ e=>by cases e),(fun _ _ _ _ e=>by cases e)⟩
theorem law_of {f:Nat}(hk:CallOK P W0 k)(h:isT (k f .nl (.mk .lf 0 0))=true):FnOK P f∧Calls P f #[] W0 (fun e w'=>e=.returned (.bool true)∧Agree W0 w'):=by
  obtain⟨t,h',hl⟩:=isT_lf h
  obtain⟨h1,h2⟩:=hk f _ _ _ _ _ hl
  refine⟨h1,(h2 _ W0 [] (hr_empty W0) .nil).mono ?_⟩
  rintro e w' ⟨u,α',rfl,s,r⟩
  rw [rep_bool r]
  exact⟨rfl,s.hr.agr⟩
end
end Go.X1

set_option maxRecDepth 100000
namespace Go.X1
variable [Nu]
theorem dropT_get (lo M:Nat):∀(t:T B) (a b i:Nat),tget .no (dropT lo M t a b) i=if a * i+b<lo∨bit M (a * i+b)=true then tget .no t i else .no
  |.lf,a,b,i=>by
    show B.no=if _ then B.no else B.no
    split<;>rfl
  |.nd x l r,a,b,i=>by
    have e:dropT lo M (.nd x l r) a b=.nd (@Bool.rec (fun _=>B) (@Bool.rec (fun _=>B) .no x (bit M b)) x (Nat.blt b lo)) (dropT lo M l (2 * a) (a+b)) (dropT lo M r (2 * a) (2 * a+b)):=rfl
    rw [e,tget_nd,tget_nd]
    by_cases h0:i=0
    · subst h0
      rw [if_pos rfl,if_pos rfl,Nat.mul_zero,Nat.zero_add]
      by_cases h1:b<lo
      · have:Nat.blt b lo=true:=by rw [nat_blt];simp [h1]
        rw [this,if_pos (.inl h1)]
      · have:Nat.blt b lo=false:=by rw [nat_blt];simp [h1]
        rw [this]
        cases hb:bit M b
        · rw [if_neg (by simp [h1])]
        · rw [if_pos (.inr rfl)]
    · rw [if_neg h0,if_neg h0]
      by_cases h1:i % 2=1
      · rw [if_pos h1,if_pos h1,dropT_get lo M l]
        have:2 * a * (i / 2)+(a+b)=a * i+b:=by
          have h2:i=2 * (i / 2)+1:=by omega
          have h3:a * i=a * (2 * (i / 2)+1):=by rw [← h2]
          rw [h3,Nat.mul_add,Nat.mul_one,← Nat.mul_assoc,Nat.mul_comm a 2];omega
        rw [this]
      · rw [if_neg h1,if_neg h1,dropT_get lo M r]
        have:2 * a * (i / 2-1)+(2 * a+b)=a * i+b:=by
          have h2:i=2 * (i / 2-1)+2:=by omega
          have h3:a * i=a * (2 * (i / 2-1)+2):=by rw [← h2]
          rw [h3,Nat.mul_add,← Nat.mul_assoc,Nat.mul_comm a 2];omega
        rw [this]
theorem dropT_full (lo M:Nat):∀(t:T B) (a b n:Nat),Full t n→Full (dropT lo M t a b) n
  |.lf,_,_,_,h=>h
  |.nd x l r,a,b,n,h=>⟨h.1,dropT_full lo M l _ _ _ h.2.1,dropT_full lo M r _ _ _ h.2.2⟩
section
variable {P:Program} {W0:World} {α:Al} {w:World} {h h':H}
theorem dropH_get (lo M:Nat)(h:H)(b:Nat):tget .no (dropH lo M h).tr b=if b<lo∨bit M b=true then tget .no h.tr b else .no:=by
  cases h with |mk t n r=>
  show tget .no (dropT lo M t 1 0) b=_
  rw [dropT_get];simp;rfl
theorem HR.drop (hr:HR W0 α w h)(lo M:Nat):HR W0 α w (dropH lo M h) where
  agr:=hr.agr
  ro:=by cases h;exact hr.ro
  full:=by cases h with |mk t n r=>exact dropT_full lo M t 1 0 n hr.full
  dom b L e:=by
    obtain⟨q1,q2,q3⟩:=hr.dom b L e
    exact⟨by cases h;exact q1,q2.imp id fun q=>by cases h;exact q,q3⟩
  blk b L e:=by
    rw [dropH_get]
    split
    · exact hr.blk b L e
    · trivial
  dis b b' L L' e e' g g' q:=by
    rw [dropH_get]at g g'
    split at g
    · split at g'
      · exact hr.dis b b' L L' e e' g g' q
      · exact absurd rfl g'
    · exact absurd rfl g
theorem Step.drop {α':Al}{w':World}(s:Step W0 α w h α' w' h')(hro:h.ro≤h.nx)(M:Nat):Step W0 α w h α' w' (dropH h.nx M h') where
  hr:=s.hr.drop h.nx M
  ext:=s.ext
  fr:=s.fr
  ro:=⟨by have:=s.ro.ro;cases h';exact this,by have:=s.ro.nx;cases h';exact this,fun b hb=>by rw [dropH_get,if_pos (.inl (by omega))];exact s.ro.keep b hb⟩
  un b hb e:=by rw [dropH_get,if_pos (.inl hb)];exact s.un b hb e
theorem gc_ans {f:Nat}{F:K→A→H→R}{k:K}(M:Nat)(hF:FnAns P W0 f (F k)):FnAns P W0 f (gcF M F k):=fun a h v r h' hl=>by
  have hl:=oH_lf hl
  cases hf:F k a h with
  |bad=>rw [hf]at hl;cases hl
  |go e vs h1=>
    rw [hf]at hl
    have hl2:(some (e,vs,dropH h.nx M h1):Option (Nat×A×H))=some (1,.cn v r,h'):=hl
    cases hl2
    obtain⟨q1,q2⟩:=hF a h v r h1 (by rw [hf];rfl)
    refine⟨q1,fun α w args hr hargs=>(q2 α w args hr hargs).mono ?_⟩
    rintro e w' ⟨u,α',rfl,s,rp⟩
    exact⟨u,α',rfl,s.drop hr.ro M,rp⟩
theorem oCall_eq {k:K}{f:Nat}{a v r:A}{h h':H}{c:A→H→R}(e:k f a h=.go 1 (.cn v r) h'):oCall k f a h c=c v h':=by
  unfold oCall;rw [e];rfl
theorem isRes_eq {y:A}{r:R}(h:isRes y r=true):∃ t h',r=.go 1 (.cn y t) h'∨(y=.nl∧∃ vs,r=.go 1 vs h'):=by
  cases r with
  |bad=>cases h
  |go e vs h1=>
    have h:(@Bool.rec (fun _=>Bool) false (eqA (hd vs) y) (Nat.beq e 1))=true:=h
    cases hb:Nat.beq e 1
    · rw [hb]at h;cases h
    · rw [hb]at h
      have he:e=1:=beq hb
      subst he
      have hy:=eqA_eq _ _ h
      cases vs with
      |cn x t=>
        have:x=y:=hy
        subst this
        exact⟨t,h1,.inl rfl⟩
      |_=>exact⟨.nl,h1,.inr ⟨hy.symm,_,rfl⟩⟩
end
end Go.X1

set_option maxRecDepth 100000
namespace Go.X1
variable [Nu]
theorem brec_and {x y:Bool}(h:(@Bool.rec (fun _=>Bool) false y x)=true):x=true∧y=true:=by
  cases x
  · cases h
  · exact⟨rfl,h⟩
theorem eqTA_eq:∀(t u:T A),eqTA t u=true→t=u
  |.lf,.lf,_=>rfl
  |.lf,.nd _ _ _,h=>by cases h
  |.nd _ _ _,.lf,h=>by cases h
  |.nd x l r,.nd y l2 r2,h=>by
    obtain⟨h1,h⟩:=brec_and (x:=eqA x y) (y:=@Bool.rec (fun _=>Bool) false (eqTA r r2) (eqTA l l2)) h
    obtain⟨h2,h3⟩:=brec_and h
    rw [eqA_eq _ _ h1,eqTA_eq l l2 h2,eqTA_eq r r2 h3]
theorem eqBB_eq (x y:B)(h:eqBB x y=true):x=y:=by
  cases x with
  |no=>cases y with
    |no=>rfl
    |_=>cases h
  |cs n lo t=>cases y with
    |cs m l u=>
      obtain⟨h1,h⟩:=brec_and (x:=Nat.beq n m) (y:=@Bool.rec (fun _=>Bool) false (eqTA t u) (Nat.beq lo l)) h
      obtain⟨h2,h3⟩:=brec_and h
      rw [beq h1,beq h2,eqTA_eq _ _ h3]
    |_=>cases h
  |mp k es=>cases y with
    |mp m l=>
      obtain⟨h1,h2⟩:=brec_and (x:=Nat.beq k m) (y:=eqA es l) h
      rw [beq h1,eqA_eq _ _ h2]
    |_=>cases h
theorem eqTB_eq:∀(t u:T B),eqTB t u=true→t=u
  |.lf,.lf,_=>rfl
  |.lf,.nd _ _ _,h=>by cases h
  |.nd _ _ _,.lf,h=>by cases h
  |.nd x l r,.nd y l2 r2,h=>by
    obtain⟨h1,h⟩:=brec_and (x:=eqBB x y) (y:=@Bool.rec (fun _=>Bool) false (eqTB r r2) (eqTB l l2)) h
    obtain⟨h2,h3⟩:=brec_and h
    rw [eqBB_eq _ _ h1,eqTB_eq l l2 h2,eqTB_eq r r2 h3]
theorem eqHH_eq (x y:H)(h:eqHH x y=true):x.tr=y.tr∧x.nx=y.nx:=by
  cases x with |mk t n r=>
  cases y with |mk u m q=>
  obtain⟨h1,h2⟩:=brec_and (x:=Nat.beq n m) (y:=eqTB t u) h
  exact⟨eqTB_eq _ _ h2,beq h1⟩
def H.lck (h:H):H:=.mk h.tr h.nx h.nx
section
variable {P:Program} {W0:World} {k:K} {F:K→A→H→R} {f:Nat}
def KnownOK (P:Program)(W0:World)(f:Nat)(p:Known):Prop:=FnOK P f∧flat p.x=true∧∀(α:Al) (w:World) (args:List Value),HR W0 α w p.h.lck→RepL α args p.a→Calls P f ⟨args⟩ w (fun e w'=>∃ u α' h',e=.returned u∧Step W0 α w p.h.lck α' w' h'∧Rep α' u p.x)
theorem isRes_lf {y:A}{r:R}(h:isRes y r=true)(hy:y≠ .nl):∃ t h',r.lf=some (1,.cn y t,h'):=by
  obtain⟨t,h',h|⟨h,_⟩⟩:=isRes_eq h
  · exact⟨t,h',by rw [h];rfl⟩
  · exact absurd h hy
theorem known_of {p:Known}(hk:CallOK P W0 k)(hy:p.x≠ .nl)(h:isRes p.x (oCallP k f p.a p.h fun v h=>ret1 v h)=true):KnownOK P W0 f p:=by
  obtain⟨t,h',hl⟩:=isRes_lf h hy
  have hl:=oH_lf hl
  obtain⟨v,t2,h2,h1,hl⟩:=rCall_lf hl
  obtain⟨g1,hl⟩:=oCk_lf hl
  cases hl
  obtain⟨hf,hc⟩:=hk f _ _ _ t2 h2 h1
  refine⟨hf,g1,fun α w args hr ha=>(hc α w args hr ha).mono ?_⟩
  rintro e w' ⟨u,α',rfl,s1,s2⟩
  exact⟨u,α',h2,rfl,s1,s2⟩
theorem fRun_ans {l:List Known}(hL:∀ p∈l,KnownOK P W0 f p)(hF:FnAns P W0 f (F k)):FnAns P W0 f (fRun l F k):=by
  induction l with
  |nil=>exact hF
  |cons p l ih=>
    intro a h v r h' hl
    have ih:=ih (fun q hq=>hL q (.tail _ hq)) a h v r h'
    have hl:R.lf (@Bool.rec (fun _=>R) (fRun l F k a h) (@Bool.rec (fun _=>R) (fRun l F k a h) (ret1 p.x h) (eqHH h p.h)) (eqA a p.a))=some (1,.cn v r,h'):=hl
    rcases rec_lf hl with ⟨h1,hl⟩|⟨_,hl⟩
    · rcases rec_lf hl with ⟨h2,hl⟩|⟨_,hl⟩
      · cases hl
        obtain⟨hf,hx,hc⟩:=hL p (.head _)
        obtain⟨e1,e2⟩:=eqHH_eq _ _ h2
        have e3:H.lck h=p.h.lck:=by unfold H.lck;rw [e1,e2]
        refine⟨hf,fun α w args hr ha=>?_⟩
        rw [eqA_eq _ _ h1]at ha
        have hr2:HR W0 α w (H.lck h):=hr.lock
        rw [e3]at hr2
        refine(hc α w args hr2 ha).mono ?_
        rintro e w' ⟨u,α',h3,rfl,s1,s2⟩
        rw [← e3]at s1
        exact⟨u,α,rfl,step_back hr s1,flat_rep hx s2⟩
      · exact ih hl
    · exact ih hl
def KnownT.h (p:KnownT):H:=.mk (.nd (.cs p.m 0 p.t) .lf .lf) 1 1
theorem KnownT.full (p:KnownT):Full p.h.tr p.h.nx:=⟨(by decide:0<1),(rfl:1 / 2=0),(rfl:(1-1) / 2=0)⟩
def KnownT.a (p:KnownT):A:=.cn p.v (.cn (.ref p.g 0 0 p.n) .nl)
structure TextOK (P:Program) (W0:World) (f:Nat) (p:KnownT):Prop where
  fn:FnOK P f
  fx:flat p.x=true
  fv:flat p.v=true
  ft:∀ i,i<p.m→flat (tget junk p.t i)=true
  g:p.g=3∨11≤p.g
  ans:∀(α:Al) (w:World) (args:List Value),HR W0 α w p.h→RepL α args p.a→Calls P f ⟨args⟩ w (fun e w'=>∃ u α' h',e=.returned u∧Step W0 α w p.h α' w' h'∧Rep α' u p.x)
theorem step_iso {α α1:Al}{w w':World}{h:H}{b:Nat}{L:Loc}{p:KnownT}(hr:HR W0 α w h)(hb:α b=some L)(hB:tget .no h.tr b=.cs p.m 0 p.t)(ft:∀ i,i<p.m→flat (tget junk p.t i)=true){h1:H}
    (s:Step W0 (fun i=>if i=0 then some L else none) w p.h α1 w' h1):Step W0 α w h α w' h:=by
  have hfr:∀ k,k<w.heap.size→L.blk≠k→w'.heap[k]? =w.heap[k]? :=fun k hk hne=>s.fr.keep k hk fun b0 L0 e0=>by
    have e0:(if b0=0 then some L else none)=some L0:=e0
    split at e0
    · cases e0;exact hne
    · cases e0
  have hblk:BR α w' L (tget .no h.tr b):=by
    have q1:=hr.blk b L hb
    rw [hB]at q1 ⊢
    have q2:=s.hr.blk 0 L (s.ext.le 0 L rfl)
    rw [s.ro.keep 0 (by show 0<1;decide)]at q2
    have q2:BR α1 w' L (.cs p.m 0 p.t):=q2
    obtain⟨a1,a2,a3,a4,cs,el,a5,a6,a7⟩:=q2
    exact⟨a1,a2,a3,a4,cs,el,a5,a6,fun i i1 i2=>let ⟨v,v1,v2,v3⟩:=a7 i i1 i2;⟨v,v1,v2,flat_rep (ft i i2) v3⟩⟩
  refine⟨⟨s.hr.agr,hr.ro,hr.full,fun c M e=>?_,fun c M e=>?_,hr.dis⟩,.refl _ _ _,⟨s.fr.size,fun k hk hn=>hfr k hk (hn b L hb),s.fr.os,s.fr.out⟩,.refl _,fun _ _ _=>rfl⟩
  · obtain⟨q1,q2,q3⟩:=hr.dom c M e
    exact⟨q1,q2,Nat.lt_of_lt_of_le q3 s.fr.size⟩
  · by_cases hc:c=b
    · subst hc
      rw [hb]at e;cases e
      exact hblk
    · by_cases hd:tget .no h.tr c=.no
      · rw [hd];trivial
      · have hne:L.blk≠M.blk:=fun q=>hc (hr.dis c b M L e hb hd (by rw [hB];simp) q.symm)
        exact(hr.blk c M e).world (hfr _ (hr.dom c M e).2.2 hne)
theorem step_none {α α1:Al}{w w':World}{h h0 h1:H}(hr:HR W0 α w h)(s:Step W0 (fun _=>none) w h0 α1 w' h1):Step W0 α w h α w' h:=by
  have hfr:∀ k,k<w.heap.size→w'.heap[k]? =w.heap[k]? :=fun k hk=>s.fr.keep k hk fun b0 L0 e0=>by cases e0
  refine⟨⟨s.hr.agr,hr.ro,hr.full,fun c M e=>?_,fun c M e=>?_,hr.dis⟩,.refl _ _ _,⟨s.fr.size,fun k hk _=>hfr k hk,s.fr.os,s.fr.out⟩,.refl _,fun _ _ _=>rfl⟩
  · obtain⟨q1,q2,q3⟩:=hr.dom c M e
    exact⟨q1,q2,Nat.lt_of_lt_of_le q3 s.fr.size⟩
  · exact(hr.blk c M e).world (hfr _ (hr.dom c M e).2.2)
theorem same_lf {z:R}{b:Bool}{lf:Nat×A×H}(h:R.lf (@Bool.rec (fun _=>R) z z b)=some lf):z.lf=some lf:=by
  cases b<;>exact h
theorem fText_cn {p:KnownT}{l:List KnownT}{k:K}{v s e:A}{h:H}:fText (p::l) F k (.cn v (.cn s e)) h=@Bool.rec (fun _=>R) (fText l F k (.cn v (.cn s e)) h) (@A.rec (fun _=>R) (fun _=>fText l F k (.cn v (.cn s e)) h) (fun _=>fText l F k (.cn v (.cn s e)) h) (fun _=>fText l F k (.cn v (.cn s e)) h) (fun _ _=>fText l F k (.cn v (.cn s e)) h) (fun g b o n=>@Bool.rec (fun _=>R) (fText l F k (.cn v (.cn s e)) h) (@Bool.rec (fun _=>R) (fText l F k (.cn v (.cn s e)) h) (@Bool.rec (fun _=>R) (fText l F k (.cn v (.cn s e)) h) (@Bool.rec (fun _=>R) (@Bool.rec (fun _=>R) (fText l F k (.cn v (.cn s e)) h) (@Bool.rec (fun _=>R) (fText l F k (.cn v (.cn s e)) h) (ret1 p.x h) (eqBB (blkB h b) (.cs p.m 0 p.t))) (Nat.beq o 0)) (ret1 p.x h) (Nat.beq g 3)) (Nat.beq n p.n)) (Nat.beq g p.g)) (eqA e .nl)) (fun _ _ _=>fText l F k (.cn v (.cn s e)) h) (fText l F k (.cn v (.cn s e)) h) (fun _ _ _ _=>fText l F k (.cn v (.cn s e)) h) s) (eqA v p.v):=rfl
theorem fText_ans {l:List KnownT}(hL:∀ p∈l,TextOK P W0 f p)(hF:FnAns P W0 f (F k)):FnAns P W0 f (fText l F k):=by
  induction l with
  |nil=>exact hF
  |cons p l ih=>
    intro a h x r h' hl
    have ih:=ih (fun q hq=>hL q (.tail _ hq)) a h x r h'
    cases a with
    |cn v q=>
      cases q with
      |cn s e=>
        rw [fText_cn]at hl
        rcases rec_lf hl with ⟨hv,hl⟩|⟨_,hl⟩
        · cases s with
          |ref g b o n=>
            rcases rec_lf hl with ⟨he,hl⟩|⟨_,hl⟩
            · rcases rec_lf hl with ⟨hg,hl⟩|⟨_,hl⟩
              · rcases rec_lf hl with ⟨hn,hl⟩|⟨_,hl⟩
                · have hv:=eqA_eq _ _ hv
                  have he:=eqA_eq _ _ he
                  have hg:g=p.g:=beq hg
                  have hn:n=p.n:=beq hn
                  subst hv;subst he
                  have T:=hL p (.head _)
                  rcases rec_lf hl with ⟨h3,hl⟩|⟨h3,hl⟩
                  · have h3:g=3:=beq h3
                    cases hl
                    refine⟨T.fn,fun α w args hr ha=>?_⟩
                    match args,ha with
                    | [u,sv],.cons a1 (.cons a2 .nil)=>
                      rw [h3]at a2
                      have e1:=rep_nsl a2
                      subst e1
                      have hr1:HR W0 (fun _=>none) w p.h:=⟨hr.agr,Nat.le_refl _,p.full,(fun _ _ e=>by cases e),(fun _ _ e=>by cases e),(fun _ _ _ _ e=>by cases e)⟩
                      refine(T.ans _ w _ hr1 (.cons (flat_rep T.fv a1) (.cons (by rw [← hg,h3];exact .ref .nsl) .nil))).mono ?_
                      rintro e w' ⟨u,α',h4,rfl,s1,s2⟩
                      exact⟨u,α,rfl,step_none hr s1,flat_rep T.fx s2⟩
                  · rcases rec_lf hl with ⟨h4,hl⟩|⟨_,hl⟩
                    · rcases rec_lf hl with ⟨h5,hl⟩|⟨_,hl⟩
                      · have h4:o=0:=beq h4
                        cases hl
                        have h5:=eqBB_eq _ _ h5
                        have h6:tget .no h.tr b=.cs p.m 0 p.t:=by cases h;exact h5
                        refine⟨T.fn,fun α w args hr ha=>?_⟩
                        match args,ha with
                        | [u,sv],.cons a1 (.cons a2 .nil)=>
                          rw [h4]at a2
                          have hg11:11≤g:=by
                            rcases T.g with q|q
                            · rw [← hg]at q
                              rw [q]at h3;cases h3
                            · omega
                          cases a2 with
                          |ref a2=>
                            cases a2 with
                            |@sl _ _ _ _ cp ad L hb h1 h2 h3 h4 h5 h6=>
                              have hB:=hr.blk b L hb
                              rw [‹tget .no h.tr b=.cs p.m 0 p.t›]at hB
                              obtain⟨c1,c2,c3,c4,cs,el,c5,c6,c7⟩:=hB
                              have hr1:HR W0 (fun i=>if i=0 then some L else none) w p.h:=by
                                have at0:∀{c M},(if c=0 then some L else none)=some M→c=0∧M=L:=fun{c M} e=>by
                                  split at e
                                  · cases e;exact⟨‹_›,rfl⟩
                                  · cases e
                                refine⟨hr.agr,Nat.le_refl _,p.full,fun c M e=>?_,fun c M e=>?_,fun c d M N e1 e2 _ _ _=>?_⟩
                                · obtain⟨rfl,rfl⟩:=at0 e
                                  exact⟨by show 0<1;decide,.inr (by show 0<1;decide),(hr.dom b _ hb).2.2⟩
                                · obtain⟨rfl,rfl⟩:=at0 e
                                  exact⟨c1,c2,c3,c4,cs,el,c5,c6,fun i i1 i2=>let ⟨v,v1,v2,v3⟩:=c7 i i1 i2;⟨v,v1,v2,flat_rep (T.ft i i2) v3⟩⟩
                                · obtain⟨rfl,_⟩:=at0 e1
                                  obtain⟨rfl,_⟩:=at0 e2
                                  rfl
                              refine(T.ans _ w _ hr1 (.cons (flat_rep T.fv a1) (.cons ?_ .nil))).mono ?_
                              · rw [← hg,← hn]
                                exact .ref (.sl (L:=L) (by rfl) h1 h2 h3 h4 h5 h6)
                              · rintro e w' ⟨u,α',h7,rfl,s1,s2⟩
                                exact⟨u,α,rfl,step_iso hr hb ‹_› T.ft s1,flat_rep T.fx s2⟩
                            |_=>omega
                      · exact ih hl
                    · exact ih hl
                · exact ih hl
              · exact ih hl
            · exact ih hl
          |_=>exact ih hl
        · exact ih hl
      |_=>exact ih (same_lf (b:=eqA v p.v) (z:=fText l F k (.cn v _) h) hl)
    |_=>exact ih hl
end
end Go.X1

set_option maxRecDepth 100000
namespace Go.X1
noncomputable section
def loc (g:Nat):Bool:=@Bool.rec (fun _=>Bool) true (Nat.blt (nat_lit 9) g) (Nat.ble (nat_lit 3) g)
def renA (r:Nat→Nat)(x:A):A:=@A.rec (fun _=>A) (fun n=>.int n) (fun n=>.byt n) (fun b=>.bool b) (fun n N=>.str n N) (fun g b o n=>.ref g (@Bool.rec (fun _=>Nat) b (r b) (loc g)) o n) (fun g _ l=>.nd g l) .nl (fun _ _ x y=>.cn x y) x
def okA (s m:Nat)(x:A):Bool:=@A.rec (fun _=>Bool) (fun _=>true) (fun _=>true) (fun _=>true) (fun _ _=>true) (fun g b _ _=>@Bool.rec (fun _=>Bool) true (@Bool.rec (fun _=>Bool) false (Nat.blt b m) (Nat.ble s b)) (loc g)) (fun _ _ l=>l) true (fun _ _ x y=>@Bool.rec (fun _=>Bool) false y x) x
end
variable [Nu]
noncomputable def reAl (α:Al) (r:Nat→Nat) (s m:Nat):Al:=fun b=>if s≤b∧b<m then α (r b)else none
theorem loc_no {g:Nat}(h1:3≤g)(h2:g≤9):loc g=false:=by
  unfold loc
  rw [show Nat.ble 3 g=true from Nat.ble_eq_true_of_le h1]
  show Nat.blt 9 g=false
  cases h:Nat.blt 9 g with
  |false=>rfl
  |true=>have:=blt h;omega
theorem ren_ref {α:Al}{r:Nat→Nat}{s m g b o n:Nat}{v:Value}(hk:okA s m (.ref g b o n)=true):RefR α v g (@Bool.rec (fun _=>Nat) b (r b) (loc g)) o n↔RefR (reAl α r s m) v g b o n:=by
  have hk:(@Bool.rec (fun _=>Bool) true (@Bool.rec (fun _=>Bool) false (Nat.blt b m) (Nat.ble s b)) (loc g))=true:=hk
  cases hg:loc g with
  |false=>
    show RefR α v g b o n↔_
    constructor<;>intro h
    · cases h with
      |ptr h ho=>cases hg
      |map h=>cases hg
      |nsl=>exact .nsl
      |nptr=>exact .nptr
      |nmap=>exact .nmap
      |nif=>exact .nif
      |nfn=>exact .nfn
      |err=>exact .err
      |sm h hu=>exact .sm h hu
      |raw h=>exact .raw h
      |rst h=>exact .rst h
      |dg hv h=>exact .dg hv h
      |inp h hu=>exact .inp h hu
      |ilen hu=>exact .ilen hu
      |prd a b=>exact .prd a b
      |hf a b=>exact .hf a b
      |sl h h1 h2=>
        unfold loc at hg
        rw [show Nat.ble 3 g=true from Nat.ble_eq_true_of_le (by omega),show Nat.blt 9 g=true from Nat.ble_eq_true_of_le (show 9+1≤g by omega)]at hg
        cases hg
    · cases h with
      |ptr h ho=>cases hg
      |map h=>cases hg
      |nsl=>exact .nsl
      |nptr=>exact .nptr
      |nmap=>exact .nmap
      |nif=>exact .nif
      |nfn=>exact .nfn
      |err=>exact .err
      |sm h hu=>exact .sm h hu
      |raw h=>exact .raw h
      |rst h=>exact .rst h
      |dg hv h=>exact .dg hv h
      |inp h hu=>exact .inp h hu
      |ilen hu=>exact .ilen hu
      |prd a b=>exact .prd a b
      |hf a b=>exact .hf a b
      |sl h h1 h2=>
        unfold loc at hg
        rw [show Nat.ble 3 g=true from Nat.ble_eq_true_of_le (by omega),show Nat.blt 9 g=true from Nat.ble_eq_true_of_le (show 9+1≤g by omega)]at hg
        cases hg
  |true=>
    rw [hg]at hk
    have hk:=brec_and hk
    have hb:s≤b∧b<m:=⟨ble hk.1,blt hk.2⟩
    have e:reAl α r s m b=α (r b):=by unfold reAl;rw [if_pos hb]
    show RefR α v g (r b) o n↔_
    generalize r b=b' at e
    constructor<;>intro h
    · cases h with
      |ptr h ho=>exact .ptr (e.trans h) ho
      |map h=>exact .map (e.trans h)
      |sl h h1 h2 h3 h4 h5 h6=>exact .sl (e.trans h) h1 h2 h3 h4 h5 h6
      |_=>cases hg
    · cases h with
      |ptr h ho=>exact .ptr (e.symm.trans h) ho
      |map h=>exact .map (e.symm.trans h)
      |sl h h1 h2 h3 h4 h5 h6=>exact .sl (e.symm.trans h) h1 h2 h3 h4 h5 h6
      |_=>cases hg
theorem ren_pcs {r:Nat→Nat}:∀(x:A) (bs:List UInt8),Pcs bs (renA r x)↔Pcs bs x:=by
  intro x
  induction x with
  |cn x y _ ih=>
    intro bs
    constructor<;>intro h
    · cases x with
      |byt n=>cases h with |byt h=>exact .byt ((ih _).1 h)
      |ref g b o n=>
        have h:Pcs bs (.cn (.ref g (@Bool.rec (fun _=>Nat) b (r b) (loc g)) o n) (renA r y)):=h
        generalize hb:(@Bool.rec (fun _=>Nat) b (r b) (loc g))=b' at h
        cases h with
        |dg hv h0 h3=>cases hb;exact .dg hv h0 ((ih _).1 h3)
        |it hv h3=>cases hb;exact .it hv ((ih _).1 h3)
        |tx a b h3=>cases hb;exact .tx a b ((ih _).1 h3)
      |_=>cases h
    · cases h with
      |byt h=>exact .byt ((ih _).2 h)
      |dg hv h0 h=>exact .dg hv h0 ((ih _).2 h)
      |it hv h=>exact .it hv ((ih _).2 h)
      |tx a b h=>exact .tx a b ((ih _).2 h)
  |_=>intro bs;constructor<;>intro h<;>(cases h<;>first|exact .nil|skip)
theorem ren_rep {α:Al}{r:Nat→Nat}{s m:Nat}:∀(x:A),okA s m x=true→(∀ v,Rep α v (renA r x)↔Rep (reAl α r s m) v x)∧(∀ vs,RepL α vs (renA r x)↔RepL (reAl α r s m) vs x):=by
  intro x
  induction x with
  |int n=>exact fun _=>⟨fun v=>⟨fun h=>(by cases h with |int h=>exact .int h),fun h=>(by cases h with |int h=>exact .int h)⟩,fun vs=>⟨fun h=>(by cases h),fun h=>(by cases h)⟩⟩
  |byt n=>exact fun _=>⟨fun v=>⟨fun h=>(by cases h with |byt h h2=>exact .byt h h2),fun h=>(by cases h with |byt h h2=>exact .byt h h2)⟩,fun vs=>⟨fun h=>(by cases h),fun h=>(by cases h)⟩⟩
  |bool n=>exact fun _=>⟨fun v=>⟨fun h=>(by cases h with |bool=>exact .bool _),fun h=>(by cases h with |bool=>exact .bool _)⟩,fun vs=>⟨fun h=>(by cases h),fun h=>(by cases h)⟩⟩
  |str n N=>exact fun _=>⟨fun v=>⟨fun h=>(by cases h with |str h h2=>exact .str h h2),fun h=>(by cases h with |str h h2=>exact .str h h2)⟩,fun vs=>⟨fun h=>(by cases h),fun h=>(by cases h)⟩⟩
  |ref g b o n=>exact fun hk=>⟨fun v=>⟨fun h=>(by cases h with |ref h=>exact .ref ((ren_ref hk).1 h)),fun h=>(by cases h with |ref h=>exact .ref ((ren_ref hk).2 h))⟩,fun vs=>⟨fun h=>(by cases h),fun h=>(by cases h)⟩⟩
  |nd g l ih=>
    intro hk
    obtain⟨_,i2⟩:=ih hk
    refine⟨fun v=>⟨fun h=>?_,fun h=>?_⟩,fun vs=>⟨fun h=>(by cases h),fun h=>(by cases h)⟩⟩
    · have h:Rep α v (.nd g (renA r l)):=h
      cases h with
      |agg h h1=>exact .agg ((i2 _).1 h) h1
      |tup h=>exact .tup ((i2 _).1 h)
      |fn hg h=>exact .fn hg ((i2 _).1 h)
      |pst h=>exact .pst ((ren_pcs _ _).1 h)
    · show Rep α v (.nd g (renA r l))
      cases h with
      |agg h h1=>exact .agg ((i2 _).2 h) h1
      |tup h=>exact .tup ((i2 _).2 h)
      |fn hg h=>exact .fn hg ((i2 _).2 h)
      |pst h=>exact .pst ((ren_pcs _ _).2 h)
  |nl=>exact fun _=>⟨fun v=>⟨fun _=>.unk _,fun _=>.unk _⟩,fun vs=>⟨fun h=>(by cases h with |nil=>exact .nil),fun h=>(by cases h with |nil=>exact .nil)⟩⟩
  |cn x y ihx ihy=>
    intro hk
    obtain⟨k1,k2⟩:=brec_and (x:=okA s m x) (y:=okA s m y) hk
    obtain⟨i1,_⟩:=ihx k1
    obtain⟨_,i2⟩:=ihy k2
    refine⟨fun v=>⟨fun h=>(by cases h),fun h=>(by cases h)⟩,fun vs=>⟨fun h=>?_,fun h=>?_⟩⟩
    · have h:RepL α vs (.cn (renA r x) (renA r y)):=h
      cases h with
      |cons h t=>exact .cons ((i1 _).1 h) ((i2 _).1 t)
    · show RepL α vs (.cn (renA r x) (renA r y))
      cases h with
      |cons h t=>exact .cons ((i1 _).2 h) ((i2 _).2 t)
end Go.X1

set_option maxRecDepth 100000
namespace Go.X1
noncomputable section
def rget (r:List Nat)(b:Nat):Nat:=@List.rec Nat (fun _=>Nat→Nat) (fun _=>nat_lit 0) (fun x _ ih b=>@Bool.rec (fun _=>Nat) (ih (Nat.sub b (nat_lit 1))) x (Nat.beq b (nat_lit 0))) r b
def renT (r:Nat→Nat)(t:T A):T A:=@T.rec A (fun _=>T A) .lf (fun x _ _ l q=>.nd (renA r x) l q) t
def okT (s m:Nat)(t:T A):Bool:=@T.rec A (fun _=>Bool) true (fun x _ _ l q=>@Bool.rec (fun _=>Bool) false (@Bool.rec (fun _=>Bool) false q l) (okA s m x)) t
def renB (r:Nat→Nat)(b:B):B:=@B.rec (fun _=>B) .no (fun n lo t=>.cs n lo (renT r t)) (fun k e=>.mp k e) b
def okB (s m:Nat)(b:B):Bool:=@B.rec (fun _=>Bool) false (fun _ _ t=>okT s m t) (fun _ _=>false) b
def notIn (x:Nat)(l:List Nat):Bool:=@List.rec Nat (fun _=>Bool) true (fun y _ ih=>@Bool.rec (fun _=>Bool) ih false (Nat.beq x y)) l
def nodupL (l:List Nat):Bool:=@List.rec Nat (fun _=>Bool) true (fun x l ih=>@Bool.rec (fun _=>Bool) false ih (notIn x l)) l
def blksOK (r:List Nat)(m:Nat)(u t:T B)(l:List Nat):Nat→Bool:=@List.rec Nat (fun _=>Nat→Bool) (fun i=>Nat.beq i m) (fun x _ ih i=>@Bool.rec (fun _=>Bool) false (@Bool.rec (fun _=>Bool) false (ih (Nat.add i (nat_lit 1))) (eqBB (renB (rget r) (tget .no u i)) (tget .no t x))) (okB (nat_lit 0) m (tget .no u i))) l
def fRen (p:Known)(r:List Nat)(F:K→A→H→R)(k:K)(a:A)(h:H):R:=oH h fun t _ _=>oH p.h fun u m _=>@Bool.rec (fun _=>R) (F k a h) (@Bool.rec (fun _=>R) (F k a h) (@Bool.rec (fun _=>R) (F k a h) (@Bool.rec (fun _=>R) (F k a h) (ret1 p.x h) (nodupL r)) (blksOK r m u t r (nat_lit 0))) (okA (nat_lit 0) m p.a)) (eqA (renA (rget r) p.a) a)
end
variable [Nu]
theorem tget_ren (r:Nat→Nat):∀(t:T A) (i:Nat),tget junk (renT r t) i=renA r (tget junk t i)
  |.lf,i=>rfl
  |.nd x l q,i=>by
    show tget junk (.nd (renA r x) (renT r l) (renT r q)) i=_
    rw [tget_nd,tget_nd,tget_ren r l,tget_ren r q]
    split
    · rfl
    · split<;>rfl
theorem full_ren (r:Nat→Nat):∀(t:T A) (n:Nat),Full (renT r t) n↔Full t n
  |.lf,n=>Iff.rfl
  |.nd x l q,n=>by
    show(0<n∧Full (renT r l) (n / 2)∧Full (renT r q) ((n-1) / 2))↔(0<n∧Full l (n / 2)∧Full q ((n-1) / 2))
    rw [full_ren r l,full_ren r q]
theorem okT_get {s m:Nat}:∀(t:T A),okT s m t=true→∀ i,okA s m (tget junk t i)=true
  |.lf,_,i=>rfl
  |.nd x l q,h,i=>by
    obtain⟨h1,h⟩:=brec_and (x:=okA s m x) (y:=@Bool.rec (fun _=>Bool) false (okT s m q) (okT s m l)) h
    obtain⟨h2,h3⟩:=brec_and h
    rw [tget_nd]
    split
    · exact h1
    · split
      · exact okT_get l h2 _
      · exact okT_get q h3 _
theorem ren_br {α:Al}{w:World}{L:Loc}{r:Nat→Nat}{s m:Nat}:∀{b:B},okB s m b=true→(BR α w L (renB r b)↔BR (reAl α r s m) w L b)
  |.no,h=>by cases h
  |.mp _ _,h=>by cases h
  |.cs n lo t,h=>by
    have h:okT s m t=true:=h
    show BR α w L (.cs n lo (renT r t))↔_
    have e:∀ i v,Rep α v (tget junk (renT r t) i)↔Rep (reAl α r s m) v (tget junk t i):=fun i v=>by
      rw [tget_ren];exact(ren_rep _ (okT_get t h i)).1 v
    constructor
    · rintro⟨a1,a2,a3,⟨q,a4,a5⟩,cs,el,a6,a7,a8⟩
      exact⟨a1,a2,a3,⟨q,(full_ren r t q).1 a4,a5⟩,cs,el,a6,a7,fun i i1 i2=>let ⟨v,v1,v2,v3⟩:=a8 i i1 i2;⟨v,v1,v2,(e i v).1 v3⟩⟩
    · rintro⟨a1,a2,a3,⟨q,a4,a5⟩,cs,el,a6,a7,a8⟩
      exact⟨a1,a2,a3,⟨q,(full_ren r t q).2 a4,a5⟩,cs,el,a6,a7,fun i i1 i2=>let ⟨v,v1,v2,v3⟩:=a8 i i1 i2;⟨v,v1,v2,(e i v).2 v3⟩⟩
theorem notIn_spec {x:Nat}:∀{l:List Nat},notIn x l=true→x∉l
  | [],_=>by simp
  |y::l,h=>by
    have h:(@Bool.rec (fun _=>Bool) (notIn x l) false (Nat.beq x y))=true:=h
    cases e:Nat.beq x y with
    |true=>rw [e]at h;cases h
    |false=>
      rw [e]at h
      intro hm
      rcases List.mem_cons.1 hm with rfl|hm
      · rw [Nat.beq_refl]at e;cases e
      · exact notIn_spec h hm
theorem nodupL_spec:∀{l:List Nat},nodupL l=true→l.Nodup
  | [],_=>.nil
  |x::l,h=>by
    obtain⟨h1,h2⟩:=brec_and (x:=notIn x l) (y:=nodupL l) h
    exact List.nodup_cons.2 ⟨notIn_spec h1,nodupL_spec h2⟩
theorem rget_get:∀(r:List Nat) (b x:Nat),r[b]? =some x→rget r b=x
  | [],b,x,h=>by simp at h
  |y::r,0,x,h=>by
    simp only [List.getElem?_cons_zero,Option.some.injEq]at h
    subst h;rfl
  |y::r,b+1,x,h=>by
    have:rget (y::r) (b+1)=rget r (b+1-1):=rfl
    rw [this]
    exact rget_get r b x (by simpa using h)
theorem blksOK_spec {r:List Nat}{m:Nat}{u t:T B}:∀(l:List Nat) (i:Nat),blksOK r m u t l i=true→l.length+i=m∧∀ j x,l[j]? =some x→okB 0 m (tget .no u (i+j))=true∧renB (rget r) (tget .no u (i+j))=tget .no t x
  | [],i,h=>⟨by have:=beq h;simpa using this,fun j x e=>by simp at e⟩
  |y::l,i,h=>by
    obtain⟨h1,h⟩:=brec_and (x:=okB 0 m (tget .no u i)) (y:=@Bool.rec (fun _=>Bool) false (blksOK r m u t l (i+1)) (eqBB (renB (rget r) (tget .no u i)) (tget .no t y))) h
    obtain⟨h2,h3⟩:=brec_and h
    obtain⟨q1,q2⟩:=blksOK_spec l (i+1) h3
    refine⟨by simp;omega,fun j x e=>?_⟩
    cases j with
    |zero=>
      simp only [List.getElem?_cons_zero,Option.some.injEq]at e
      subst e
      exact⟨h1,eqBB_eq _ _ h2⟩
    |succ j=>
      have:=q2 j x (by simpa using e)
      rwa [show i+1+j=i+(j+1)by omega]at this
theorem fRen_ans {P:Program}{W0:World}{k:K}{F:K→A→H→R}{f:Nat}{p:Known}{r:List Nat}(hp:KnownOK P W0 f p)(hfull:Full p.h.tr p.h.nx)(hF:FnAns P W0 f (F k)):FnAns P W0 f (fRen p r F k):=by
  intro a h v q h' hl
  have ih:=hF a h v q h'
  obtain⟨pa,ph,px⟩:=p
  cases ph with |mk u m ro0=>
  cases h with |mk t nx ro=>
  have hl:R.lf (@Bool.rec (fun _=>R) (F k a (.mk t nx ro)) (@Bool.rec (fun _=>R) (F k a (.mk t nx ro)) (@Bool.rec (fun _=>R) (F k a (.mk t nx ro)) (@Bool.rec (fun _=>R) (F k a (.mk t nx ro)) (ret1 px (.mk t nx ro)) (nodupL r)) (blksOK r m u t r 0)) (okA 0 m pa)) (eqA (renA (rget r) pa) a))=some (1,.cn v q,h'):=hl
  rcases rec_lf hl with ⟨h1,hl⟩|⟨_,hl⟩
  case inr=>exact ih hl
  rcases rec_lf hl with ⟨h2,hl⟩|⟨_,hl⟩
  case inr=>exact ih hl
  rcases rec_lf hl with ⟨h3,hl⟩|⟨_,hl⟩
  case inr=>exact ih hl
  rcases rec_lf hl with ⟨h4,hl⟩|⟨_,hl⟩
  case inr=>exact ih hl
  cases hl
  obtain⟨hf,hx,hc⟩:=hp
  obtain⟨len,hb⟩:=blksOK_spec r 0 h3
  have nd:=nodupL_spec h4
  have get:∀ b,b<m→r[b]? =some (rget r b):=fun b hbm=>by
    have e:r[b]? =some r[b]:=List.getElem?_eq_getElem (by omega)
    rw [rget_get r b _ e];exact e
  have blk:∀ b,b<m→okB 0 m (tget .no u b)=true∧renB (rget r) (tget .no u b)=tget .no t (rget r b):=fun b hbm=>by
    have:=hb b _ (get b hbm)
    rwa [Nat.zero_add]at this
  have alive:∀ b,b<m→tget .no t (rget r b)≠ .no:=fun b hbm e=>by
    obtain⟨q1,q2⟩:=blk b hbm
    rw [e]at q2
    cases hu:tget .no u b<;>rw [hu]at q1 q2
    · cases q1
    · cases q2
    · cases q1
  have inj:∀ b b',b<m→b'<m→rget r b=rget r b'→b=b':=fun b b' l1 l2 e=>by
    have e1:=get b l1
    have e2:=get b' l2
    rw [← e]at e2
    exact(List.getElem?_inj (by omega) nd).1 (e1.trans e2.symm)
  refine⟨hf,fun α w args hr ha=>?_⟩
  have at0:∀{b L},reAl α (rget r) 0 m b=some L→b<m∧α (rget r b)=some L:=fun{b L} e=>by
    unfold reAl at e
    split at e
    · rename_i q
      exact⟨q.2,e⟩
    · cases e
  have ha2:RepL (reAl α (rget r) 0 m) args pa:=by
    rw [← eqA_eq _ _ h1]at ha
    exact((ren_rep pa h2).2 args).1 ha
  have hr1:HR W0 (reAl α (rget r) 0 m) w (.mk u m m):=by
    refine⟨hr.agr,Nat.le_refl _,hfull,fun b L e=>?_,fun b L e=>?_,fun b b' L L' e e' _ _ q=>?_⟩
    · obtain⟨q1,q2⟩:=at0 e
      exact⟨q1,.inr q1,(hr.dom _ _ q2).2.2⟩
    · obtain⟨q1,q2⟩:=at0 e
      have:=hr.blk _ _ q2
      obtain⟨b1,b2⟩:=blk b q1
      refine(ren_br b1).1 ?_
      rw [b2];exact this
    · obtain⟨q1,q2⟩:=at0 e
      obtain⟨q3,q4⟩:=at0 e'
      exact inj b b' q1 q3 (hr.dis _ _ _ _ q2 q4 (alive b q1) (alive b' q3) q)
  refine(hc (reAl α (rget r) 0 m) w args hr1 ha2).mono ?_
  rintro e w' ⟨z,α',h5,rfl,s1,s2⟩
  refine⟨z,α,rfl,?_,flat_rep hx s2⟩
  have s:=step_back (h:=.mk u m m) hr1 s1
  refine⟨⟨s.hr.agr,hr.ro,hr.full,fun c M e=>?_,fun c M e=>?_,hr.dis⟩,.refl _ _ _,⟨s.fr.size,fun c hc' hn=>s.fr.keep c hc' fun b0 L0 e0=>hn _ L0 (at0 e0).2,s.fr.os,s.fr.out⟩,.refl _,fun _ _ _=>rfl⟩
  · obtain⟨q1,q2,q3⟩:=hr.dom c M e
    exact⟨q1,q2,Nat.lt_of_lt_of_le q3 s.fr.size⟩
  · by_cases hin:∃ b,b<m∧rget r b=c
    · obtain⟨b,q1,rfl⟩:=hin
      have e2:reAl α (rget r) 0 m b=some M:=by unfold reAl;rw [if_pos ⟨Nat.zero_le _,q1⟩];exact e
      have:=s.hr.blk b M e2
      obtain⟨b1,b2⟩:=blk b q1
      show BR α w' M (tget .no t (rget r b))
      rw [← b2]
      exact(ren_br b1).2 this
    · by_cases hd:tget .no t c=.no
      · show BR α w' M (tget .no t c)
        rw [hd];trivial
      · refine(hr.blk c M e).world (s.fr.keep _ (hr.dom c M e).2.2 fun b0 L0 e0 q=>?_)
        obtain⟨q1,q2⟩:=at0 e0
        exact hin ⟨b0,q1,hr.dis _ _ _ _ q2 e (alive b0 q1) hd q⟩
end Go.X1

set_option maxRecDepth 100000
namespace Go.X1
noncomputable section
def mergeT (t:T B):T B→T B:=@T.rec B (fun _=>T B→T B) (fun u=>u) (fun x _ _ gl gr u=>@T.rec B (fun _=>T B) (.nd x (gl .lf) (gr .lf)) (fun _ l r _ _=>.nd x (gl l) (gr r)) u) t
structure KW where
  a:A
  x:A
  t:T B
  lo:Nat
  nx:Nat
def fW (p:KW)(F:K→A→H→R)(k:K)(a:A)(h:H):R:=oH h fun t nx ro=>@Bool.rec (fun _=>R) (F k a h) (@Bool.rec (fun _=>R) (F k a h) (.go (nat_lit 1) (.cn p.x .nl) (.mk (mergeT t p.t) p.nx ro)) (Nat.ble nx p.lo)) (eqA a p.a)
def fullB (t:T B):Nat→Bool:=@T.rec B (fun _=>Nat→Bool) (fun n=>Nat.beq n (nat_lit 0)) (fun _ _ _ l r n=>@Bool.rec (fun _=>Bool) false (@Bool.rec (fun _=>Bool) false (r (Nat.div (Nat.sub n (nat_lit 1)) (nat_lit 2))) (l (Nat.div n (nat_lit 2)))) (Nat.blt (nat_lit 0) n)) t
def blksW (r:Nat→Nat)(s m:Nat)(u t:T B)(n:Nat):Nat→Nat→Bool:=@Nat.rec (fun _=>Nat→Nat→Bool) (fun i _=>Nat.beq i m) (fun _ ih i b=>@Bool.rec (fun _=>Bool) false (@Bool.rec (fun _=>Bool) false (@Bool.rec (fun _=>Bool) false (ih (Nat.succ i) (Nat.succ (r i))) (eqBB (renB r (tget .no u i)) (tget .no t (r i)))) (okB s m (tget .no u i))) (Nat.ble b (r i))) n
def okW (p:KW)(r:Nat→Nat)(n:Nat)(z:R):Bool:=@R.rec (fun _=>Bool) false (fun e vs h=>@Bool.rec (fun _=>Bool) false (@Bool.rec (fun _=>Bool) false (@Bool.rec (fun _=>Bool) false (@H.rec (fun _=>Bool) (fun t _ _=>blksW r p.lo p.nx p.t t n p.lo (nat_lit 0)) h) (@A.rec (fun _=>Bool) (fun _=>false) (fun _=>false) (fun _=>false) (fun _ _=>false) (fun _ _ _ _=>false) (fun _ _ _=>false) false (fun v _ _ _=>eqA (renA r p.x) v) vs)) (okA p.lo p.nx p.x)) (Nat.beq e (nat_lit 1))) z
end
variable [Nu]
theorem merge_lf (u:T B):mergeT .lf u=u:=rfl
theorem merge_nd (x:B)(l r u:T B):mergeT (.nd x l r) u=match u with |.lf=>.nd x (mergeT l .lf) (mergeT r .lf)|.nd _ l2 r2=>.nd x (mergeT l l2) (mergeT r r2):=by
  cases u<;>rfl
theorem merge_get:∀(t u:T B) (n i:Nat),Full t n→tget .no (mergeT t u) i=if i<n then tget .no t i else tget .no u i
  |.lf,u,n,i,h=>by
    have:n=0:=h
    rw [merge_lf,if_neg (by omega)]
  |.nd x l r,u,n,i,h=>by
    obtain⟨h0,h1,h2⟩:=h
    rw [merge_nd]
    cases u with
    |lf=>
      show tget .no (.nd x (mergeT l .lf) (mergeT r .lf)) i=_
      rw [tget_nd,tget_nd,merge_get l .lf _ _ h1,merge_get r .lf _ _ h2,tget_lf,tget_lf,tget_lf]
      by_cases e0:i=0
      · rw [if_pos e0,if_pos e0,if_pos (by omega)]
      · rw [if_neg e0,if_neg e0]
        by_cases e1:i % 2=1
        · rw [if_pos e1,if_pos e1]
          by_cases e2:i<n
          · rw [if_pos e2,if_pos (by omega)]
          · rw [if_neg e2,if_neg (by omega)]
        · rw [if_neg e1,if_neg e1]
          by_cases e2:i<n
          · rw [if_pos e2,if_pos (by omega)]
          · rw [if_neg e2,if_neg (by omega)]
    |nd y l2 r2=>
      show tget .no (.nd x (mergeT l l2) (mergeT r r2)) i=_
      rw [tget_nd,tget_nd,tget_nd,merge_get l l2 _ _ h1,merge_get r r2 _ _ h2]
      by_cases e0:i=0
      · rw [if_pos e0,if_pos e0,if_pos (by omega)]
      · rw [if_neg e0,if_neg e0,if_neg e0]
        by_cases e1:i % 2=1
        · rw [if_pos e1,if_pos e1,if_pos e1]
          by_cases e2:i<n
          · rw [if_pos e2,if_pos (by omega)]
          · rw [if_neg e2,if_neg (by omega)]
        · rw [if_neg e1,if_neg e1,if_neg e1]
          by_cases e2:i<n
          · rw [if_pos e2,if_pos (by omega)]
          · rw [if_neg e2,if_neg (by omega)]
theorem full_eq:∀(t:T B) (n m:Nat),Full t n→Full t m→n=m
  |.lf,n,m,h,g=>by have h:n=0:=h;have g:m=0:=g;omega
  |.nd x l r,n,m,h,g=>by
    obtain⟨h0,h1,h2⟩:=h
    obtain⟨g0,g1,g2⟩:=g
    have:=full_eq l _ _ h1 g1
    have:=full_eq r _ _ h2 g2
    omega
theorem merge_full:∀(t u:T B) (n m:Nat),Full t n→Full u m→n≤m→Full (mergeT t u) m
  |.lf,u,n,m,h,g,_=>g
  |.nd x l r,.lf,n,m,h,g,hm=>by
    have h0:=h.1
    have g:m=0:=g
    omega
  |.nd x l r,.nd y l2 r2,n,m,h,g,hm=>by
    obtain⟨h0,h1,h2⟩:=h
    obtain⟨g0,g1,g2⟩:=g
    exact⟨g0,merge_full l l2 _ _ h1 g1 (by omega),merge_full r r2 _ _ h2 g2 (by omega)⟩
theorem fullB_spec:∀(t:T B) (n:Nat),fullB t n=true→Full t n
  |.lf,n,h=>beq h
  |.nd x l r,n,h=>by
    obtain⟨h1,h⟩:=brec_and (x:=Nat.blt 0 n) (y:=@Bool.rec (fun _=>Bool) false (fullB r ((n-1) / 2)) (fullB l (n / 2))) h
    obtain⟨h2,h3⟩:=brec_and h
    exact⟨blt h1,fullB_spec l _ h2,fullB_spec r _ h3⟩
theorem blksW_spec {r:Nat→Nat}{s m:Nat}{u t:T B}:∀(n i b:Nat),blksW r s m u t n i b=true→n+i=m∧∀ j,i≤j→j<m→b≤r j∧(∀ j',i≤j'→j'<j→r j'<r j)∧okB s m (tget .no u j)=true∧renB r (tget .no u j)=tget .no t (r j)
  |0,i,b,h=>by
    have:i=m:=beq h
    exact⟨by omega,fun j h1 h2=>by omega⟩
  |n+1,i,b,h=>by
    obtain⟨h1,h⟩:=brec_and (x:=Nat.ble b (r i)) (y:=@Bool.rec (fun _=>Bool) false (@Bool.rec (fun _=>Bool) false (blksW r s m u t n (i+1) (r i+1)) (eqBB (renB r (tget .no u i)) (tget .no t (r i)))) (okB s m (tget .no u i))) h
    obtain⟨h2,h⟩:=brec_and h
    obtain⟨h3,h4⟩:=brec_and h
    obtain⟨q1,q2⟩:=blksW_spec n (i+1) _ h4
    refine⟨by omega,fun j j1 j2=>?_⟩
    by_cases e:j=i
    · subst e
      exact⟨ble h1,fun j' a1 a2=>by omega,h2,eqBB_eq _ _ h3⟩
    · obtain⟨a1,a2,a3,a4⟩:=q2 j (by omega) j2
      refine⟨by have:=ble h1;omega,fun j' b1 b2=>?_,a3,a4⟩
      by_cases e':j'=i
      · subst e';omega
      · exact a2 j' (by omega) b2
structure KWB (α':Al) (w w':World) (p:KW):Prop where
  dom:∀ b L,α' b=some L→p.lo≤b∧b<p.nx∧w.heap.size≤L.blk∧L.fz=(0,0)∧L.blk<w'.heap.size
  blk:∀ b L,α' b=some L→BR α' w' L (tget .no p.t b)
  dis:∀ b b' L L',α' b=some L→α' b'=some L'→L.blk=L'.blk→b=b'
structure KWOK (P:Program) (W0:World) (f:Nat) (p:KW):Prop where
  fn:FnOK P f
  le:p.lo≤p.nx
  full:Full p.t p.nx
  ans:∀(α:Al) (w:World) (args:List Value),Agree W0 w→RepL α args p.a→Calls P f ⟨args⟩ w (fun e w'=>∃ u α',e=.returned u∧Agree W0 w'∧Fr (fun _=>none) w w'∧KWB α' w w' p∧Rep α' u p.x)
def hE0:H:=.mk .lf 0 0
theorem hr_none {W0 w:World}(h:Agree W0 w):HR W0 (fun _=>none) w hE0:=⟨h,Nat.le_refl _,rfl,(fun _ _ e=>by cases e),(fun _ _ e=>by cases e),(fun _ _ _ _ e=>by cases e)⟩
theorem kw_of {P:Program}{W0:World}{k:K}{f:Nat}{p:KW}{r:Nat→Nat}{n:Nat}(hk:CallOK P W0 k)(hle:Nat.ble p.lo p.nx=true)(hfull:fullB p.t p.nx=true)(hfl:flat p.a=true)(h:okW p r n (k f p.a (.mk .lf (nat_lit 0) (nat_lit 0)))=true):KWOK P W0 f p:=by
  cases hz:k f p.a (.mk .lf 0 0)with
  |bad=>rw [show k f p.a (.mk .lf (nat_lit 0) (nat_lit 0))=R.bad from hz]at h;cases h
  |go e vs h1=>
    rw [show k f p.a (.mk .lf (nat_lit 0) (nat_lit 0))=R.go e vs h1 from hz]at h
    cases h1 with |mk t nx ro=>
    obtain⟨g1,h⟩:=brec_and (x:=Nat.beq e 1) (y:=@Bool.rec (fun _=>Bool) false (@Bool.rec (fun _=>Bool) false (blksW r p.lo p.nx p.t t n p.lo 0) (@A.rec (fun _=>Bool) (fun _=>false) (fun _=>false) (fun _=>false) (fun _ _=>false) (fun _ _ _ _=>false) (fun _ _ _=>false) false (fun v _ _ _=>eqA (renA r p.x) v) vs)) (okA p.lo p.nx p.x)) h
    obtain⟨g2,h⟩:=brec_and h
    obtain⟨g3,g4⟩:=brec_and h
    have g1:e=1:=beq g1
    subst g1
    obtain⟨_,hb⟩:=blksW_spec _ _ _ g4
    have alive:∀ b,p.lo≤b→b<p.nx→tget .no t (r b)≠ .no:=fun b l1 l2 q=>by
      obtain⟨_,_,q1,q2⟩:=hb b l1 l2
      rw [q]at q2
      cases hu:tget .no p.t b<;>rw [hu]at q1 q2
      · cases q1
      · cases q2
      · cases q1
    have go:∀ v tl,k f p.a hE0=.go 1 (.cn v tl) (.mk t nx ro)→renA r p.x=v→KWOK P W0 f p:=fun v tl hz hv=>by
      obtain⟨hf,hc⟩:=hk f p.a hE0 v tl (.mk t nx ro) (by rw [hz];rfl)
      refine⟨hf,ble hle,fullB_spec _ _ hfull,fun α w args hw ha=>(hc (fun _=>none) w args (hr_none hw) (flat_repL hfl ha)).mono ?_⟩
      rintro e w' ⟨u,α1,rfl,s,rp⟩
      have at0:∀{b L},reAl α1 r p.lo p.nx b=some L→(p.lo≤b∧b<p.nx)∧α1 (r b)=some L:=fun{b L} e=>by
        unfold reAl at e
        split at e
        · exact⟨‹_›,e⟩
        · cases e
      have inj:∀ b b',p.lo≤b→b<p.nx→p.lo≤b'→b'<p.nx→r b=r b'→b=b':=fun b b' l1 l2 l3 l4 e=>by
        rcases Nat.lt_trichotomy b b' with q|q|q
        · have:=(hb b' l3 l4).2.1 b l1 q;omega
        · exact q
        · have:=(hb b l1 l2).2.1 b' l3 q;omega
      refine⟨u,reAl α1 r p.lo p.nx,rfl,s.hr.agr,s.fr,⟨fun b L e=>?_,fun b L e=>?_,fun b b' L L' e e' q=>?_⟩,?_⟩
      · obtain⟨q1,q2⟩:=at0 e
        obtain⟨d1,d2,d3⟩:=s.hr.dom _ _ q2
        rcases s.ext.new _ _ q2 with n1|⟨_,n2,n3⟩
        · cases n1
        · rcases n3 with n3|⟨b0,L0,n3,_⟩
          · refine⟨q1.1,q1.2,n3,?_,d3⟩
            rcases d2 with d2|d2
            · exact d2.2
            · rw [s.ro.ro]at d2
              exact absurd d2 (Nat.not_lt_zero _)
          · cases n3
      · obtain⟨q1,q2⟩:=at0 e
        obtain⟨_,_,b1,b2⟩:=hb b q1.1 q1.2
        refine(ren_br b1).1 ?_
        rw [b2]
        exact s.hr.blk _ _ q2
      · obtain⟨q1,q2⟩:=at0 e
        obtain⟨q3,q4⟩:=at0 e'
        exact inj b b' q1.1 q1.2 q3.1 q3.2 (s.hr.dis _ _ _ _ q2 q4 (alive b q1.1 q1.2) (alive b' q3.1 q3.2) q)
      · rw [← hv]at rp
        exact((ren_rep _ g2).1 u).1 rp
    cases vs with
    |cn v tl=>exact go v tl hz (eqA_eq _ _ g3)
    |_=>cases g3
theorem fW_ans {P:Program}{W0:World}{k:K}{F:K→A→H→R}{f:Nat}{p:KW}(hp:KWOK P W0 f p)(hF:FnAns P W0 f (F k)):FnAns P W0 f (fW p F k):=by
  intro a h v q h' hl
  have ih:=hF a h v q h'
  cases h with |mk t nx ro=>
  have hl:R.lf (@Bool.rec (fun _=>R) (F k a (.mk t nx ro)) (@Bool.rec (fun _=>R) (F k a (.mk t nx ro)) (.go 1 (.cn p.x .nl) (.mk (mergeT t p.t) p.nx ro)) (Nat.ble nx p.lo)) (eqA a p.a))=some (1,.cn v q,h'):=hl
  rcases rec_lf hl with ⟨h1,hl⟩|⟨_,hl⟩
  case inr=>exact ih hl
  rcases rec_lf hl with ⟨h2,hl⟩|⟨_,hl⟩
  case inr=>exact ih hl
  cases hl
  have ea:a=p.a:=eqA_eq _ _ h1
  subst ea
  have h2:nx≤p.lo:=ble h2
  have hle:=hp.le
  refine⟨hp.fn,fun α w args hr ha=>?_⟩
  refine(hp.ans α w args hr.agr ha).mono ?_
  rintro e w' ⟨u,α',rfl,g1,g2,g3,g4⟩
  have hfull:Full t nx:=hr.full
  have old:∀{b L},α b=some L→b<nx:=fun{b L} e=>(hr.dom b L e).1
  have l1:Le α fun b=>if b<p.lo then α b else α' b:=fun b L e=>by
    have:=old e
    show(if b<p.lo then α b else α' b)=some L
    rw [if_pos (by omega)];exact e
  have l2:Le α' fun b=>if b<p.lo then α b else α' b:=fun b L e=>by
    have:=(g3.dom b L e).1
    show(if b<p.lo then α b else α' b)=some L
    rw [if_neg (by omega)];exact e
  have at2:∀{b L},(if b<p.lo then α b else α' b)=some L→(b<nx∧α b=some L)∨(nx≤b∧α' b=some L):=fun{b L} e=>by
    split at e
    · exact .inl ⟨old e,e⟩
    · exact .inr ⟨by omega,e⟩
  refine⟨u,_,rfl,⟨⟨g1,?_,merge_full t p.t nx p.nx hfull hp.full (by omega),fun b L e=>?_,fun b L e=>?_,fun b b' L L' e e' n1 n2 q=>?_⟩,⟨l1,fun b L e=>?_⟩,⟨g2.size,fun k hk hn=>g2.keep k hk fun b L e=>(by cases e),g2.os,g2.out⟩,⟨rfl,?_,fun b hb=>?_⟩,fun b hb e=>?_⟩,g4.mono l2⟩
  · have:=hr.ro
    have:ro≤nx:=this
    show ro≤p.nx
    omega
  · rcases at2 e with ⟨q1,q2⟩|⟨q1,q2⟩
    · obtain⟨d1,d2,d3⟩:=hr.dom b L q2
      have:=g2.size
      exact⟨show b<p.nx by omega,d2,by omega⟩
    · obtain⟨d1,d2,d3,d4,d5⟩:=g3.dom b L q2
      have:=hr.agr.size
      exact⟨d2,.inl ⟨by omega,d4⟩,d5⟩
  · show BR _ w' L (tget .no (mergeT t p.t) b)
    rw [merge_get t p.t nx b hfull]
    rcases at2 e with ⟨q1,q2⟩|⟨q1,q2⟩
    · rw [if_pos q1]
      exact((hr.blk b L q2).world (g2.keep _ (hr.dom b L q2).2.2 fun b0 L0 e0=>by cases e0)).mono l1
    · rw [if_neg (by omega)]
      exact(g3.blk b L q2).mono l2
  · have n1:tget .no (mergeT t p.t) b≠ .no:=n1
    have n2:tget .no (mergeT t p.t) b'≠ .no:=n2
    rw [merge_get t p.t nx _ hfull]at n1 n2
    rcases at2 e with ⟨q1,q2⟩|⟨q1,q2⟩
    · rw [if_pos q1]at n1
      rcases at2 e' with ⟨q3,q4⟩|⟨q3,q4⟩
      · rw [if_pos q3]at n2
        exact hr.dis b b' L L' q2 q4 n1 n2 q
      · have:=(hr.dom b L q2).2.2
        have:=(g3.dom b' L' q4).2.2.1
        omega
    · rcases at2 e' with ⟨q3,q4⟩|⟨q3,q4⟩
      · have:=(hr.dom b' L' q4).2.2
        have:=(g3.dom b L q2).2.2.1
        omega
      · exact g3.dis b b' L L' q2 q4 q
  · rcases at2 e with ⟨q1,q2⟩|⟨q1,q2⟩
    · exact .inl q2
    · refine .inr ⟨?_,q1,.inl (g3.dom b L q2).2.2.1⟩
      cases h0:α b with
      |none=>rfl
      |some L'=>have:=old h0;omega
  · show nx≤p.nx
    omega
  · have:ro≤nx:=hr.ro
    have hb:b<ro:=hb
    show tget .no (mergeT t p.t) b=tget .no t b
    rw [merge_get t p.t nx b hfull,if_pos (by omega)]
  · have hb:b<nx:=hb
    show tget .no (mergeT t p.t) b=tget .no t b
    rw [merge_get t p.t nx b hfull,if_pos hb]
end Go.X1

set_option maxRecDepth 100000
namespace Go.X1
noncomputable section
def vl (m i:Nat):Nat:=Nat.add (Nat.mul (Nat.mod i (nat_lit 10)) m) (Nat.div i (nat_lit 1000))
def itn (v:Nat):Nat:=@Bool.rec (fun _=>Nat) (@Bool.rec (fun _=>Nat) (nat_lit 3) (nat_lit 2) (Nat.blt v (nat_lit 100))) (nat_lit 1) (Nat.blt v (nat_lit 10))
def dgt (v r:Nat):Nat:=Nat.add (Nat.add (nat_lit 48) v) (Nat.mul r (nat_lit 256))
def ite' (v r:Nat):Nat:=@Bool.rec (fun _=>Nat) (@Bool.rec (fun _=>Nat) (dgt (Nat.div v (nat_lit 100)) (dgt (Nat.mod (Nat.div v (nat_lit 10)) (nat_lit 10)) (dgt (Nat.mod v (nat_lit 10)) r))) (dgt (Nat.div v (nat_lit 10)) (dgt (Nat.mod v (nat_lit 10)) r)) (Nat.blt v (nat_lit 100))) (dgt v r) (Nat.blt v (nat_lit 10))
def hfv (m o i:Nat):Nat:=Nat.div (Nat.mul (vl m o) (vl m i)) (nat_lit 2)
def dlen (f:Nat):Nat→Nat:=@Nat.rec (fun _=>Nat→Nat) (fun _=>nat_lit 1) (fun _ ih v=>@Bool.rec (fun _=>Nat) (Nat.succ (ih (Nat.div v (nat_lit 10)))) (nat_lit 1) (Nat.blt v (nat_lit 10))) f
def dnc (f:Nat):Nat→Nat→Nat:=@Nat.rec (fun _=>Nat→Nat→Nat) (fun v r=>dgt v r) (fun _ ih v r=>@Bool.rec (fun _=>Nat) (ih (Nat.div v (nat_lit 10)) (dgt (Nat.mod v (nat_lit 10)) r)) (dgt v r) (Nat.blt v (nat_lit 10))) f
def pl (m:Nat)(l:A):Nat:=@A.rec (fun _=>Nat) (fun _=>nat_lit 0) (fun _=>nat_lit 0) (fun _=>nat_lit 0) (fun _ _=>nat_lit 0) (fun _ _ _ _=>nat_lit 0) (fun _ _ _=>nat_lit 0) (nat_lit 0) (fun x _ _ ih=>@A.rec (fun _=>Nat) (fun _=>nat_lit 0) (fun _=>Nat.succ ih) (fun _=>nat_lit 0) (fun _ _=>nat_lit 0) (fun _ b o i=>Nat.add (@Bool.rec (fun _=>Nat) (itn (vl m i)) (dlen (nat_lit 5) (hfv m o i)) (Nat.beq b (nat_lit 5))) ih) (fun _ _ _=>nat_lit 0) (nat_lit 0) (fun _ _ _ _=>nat_lit 0) x) l
def pe (m:Nat)(l:A):Nat:=@A.rec (fun _=>Nat) (fun _=>nat_lit 0) (fun _=>nat_lit 0) (fun _=>nat_lit 0) (fun _ _=>nat_lit 0) (fun _ _ _ _=>nat_lit 0) (fun _ _ _=>nat_lit 0) (nat_lit 0) (fun x _ _ ih=>@A.rec (fun _=>Nat) (fun _=>nat_lit 0) (fun c=>Nat.add c (Nat.mul ih (nat_lit 256))) (fun _=>nat_lit 0) (fun _ _=>nat_lit 0) (fun _ b o i=>@Bool.rec (fun _=>Nat) (ite' (vl m i) ih) (dnc (nat_lit 5) (hfv m o i) ih) (Nat.beq b (nat_lit 5))) (fun _ _ _=>nat_lit 0) (nat_lit 0) (fun _ _ _ _=>nat_lit 0) x) l
def okP (l:A):Bool:=@A.rec (fun _=>Bool) (fun _=>false) (fun _=>false) (fun _=>false) (fun _ _=>false) (fun _ _ _ _=>false) (fun _ _ _=>false) true (fun x _ _ ih=>@A.rec (fun _=>Bool) (fun _=>false) (fun _=>ih) (fun _=>false) (fun _ _=>false) (fun g b _ _=>@Bool.rec (fun _=>Bool) false (@Bool.rec (fun _=>Bool) (@Bool.rec (fun _=>Bool) false ih (Nat.beq b (nat_lit 4))) ih (Nat.beq b (nat_lit 5))) (Nat.beq g (nat_lit 8))) (fun _ _ _=>false) false (fun _ _ _ _=>false) x) l
def subA (m:Nat)(x:A):A:=@A.rec (fun _=>A) (fun n=>.int n) (fun n=>.byt n) (fun b=>.bool b) (fun n N=>.str n N) (fun g b o n=>@Bool.rec (fun _=>A) (.ref g b o n) (@Bool.rec (fun _=>A) (.ref g b o n) (.int (Nat.add (nat_lit 9223372036854775808) (vl m n))) (Nat.beq b (nat_lit 0))) (Nat.beq g (nat_lit 8))) (fun g l s=>@Bool.rec (fun _=>A) (.nd g s) (.str (pl m l) (pe m l)) (Nat.beq g (nat_lit 2))) .nl (fun _ _ x y=>.cn x y) x
def okPK (m:Nat)(l:A):Bool:=@A.rec (fun _=>Bool) (fun _=>false) (fun _=>false) (fun _=>false) (fun _ _=>false) (fun _ _ _ _=>false) (fun _ _ _=>false) true (fun x _ _ ih=>@A.rec (fun _=>Bool) (fun _=>false) (fun c=>@Bool.rec (fun _=>Bool) false ih (Nat.blt c (nat_lit 256))) (fun _=>false) (fun _ _=>false) (fun g b o i=>@Bool.rec (fun _=>Bool) false (@Bool.rec (fun _=>Bool) false (@Bool.rec (fun _=>Bool) (@Bool.rec (fun _=>Bool) false (@Bool.rec (fun _=>Bool) false ih (Nat.beq o (nat_lit 0))) (Nat.beq b (nat_lit 4))) (@Bool.rec (fun _=>Bool) false ih (Nat.ble (vl m o) (nat_lit 999))) (Nat.beq b (nat_lit 5))) (Nat.ble (vl m i) (nat_lit 999))) (Nat.beq g (nat_lit 8))) (fun _ _ _=>false) false (fun _ _ _ _=>false) x) l
def okF (x:A):Bool:=@A.rec (fun _=>Bool) (fun _=>true) (fun _=>true) (fun _=>true) (fun _ _=>true) (fun _ _ _ _=>true) (fun g l s=>@Bool.rec (fun _=>Bool) s (okP l) (Nat.beq g (nat_lit 2))) true (fun _ _ x y=>@Bool.rec (fun _=>Bool) false y x) x
def okK (m:Nat)(x:A):Bool:=@A.rec (fun _=>Bool) (fun _=>true) (fun _=>true) (fun _=>true) (fun _ _=>true) (fun g b u n=>@Bool.rec (fun _=>Bool) true (@Bool.rec (fun _=>Bool) true (@Bool.rec (fun _=>Bool) false (Nat.ble u (nat_lit 999)) (Nat.ble (vl m n) u)) (Nat.beq b (nat_lit 0))) (Nat.beq g (nat_lit 8))) (fun g l s=>@Bool.rec (fun _=>Bool) s (okPK m l) (Nat.beq g (nat_lit 2))) true (fun _ _ x y=>@Bool.rec (fun _=>Bool) false y x) x
def subT (m:Nat)(t:T A):T A:=@T.rec A (fun _=>T A) .lf (fun x _ _ l r=>.nd (subA m x) l r) t
def subB (m:Nat)(b:B):B:=@B.rec (fun _=>B) .no (fun n lo t=>.cs n lo (subT m t)) (fun k e=>.mp k e) b
def subTB (m:Nat)(t:T B):T B:=@T.rec B (fun _=>T B) .lf (fun x _ _ l r=>.nd (subB m x) l r) t
def subH (m:Nat)(h:H):H:=@H.rec (fun _=>H) (fun t nx ro=>.mk (subTB m t) nx ro) h
def okTA (q:A→Bool)(t:T A):Bool:=@T.rec A (fun _=>Bool) true (fun x _ _ l r=>@Bool.rec (fun _=>Bool) false (@Bool.rec (fun _=>Bool) false r l) (q x)) t
def okBl (q:A→Bool)(b:B):Bool:=@B.rec (fun _=>Bool) true (fun _ _ t=>okTA q t) (fun _ _=>true) b
def okTB (q:A→Bool)(t:T B):Bool:=@T.rec B (fun _=>Bool) true (fun x _ _ l r=>@Bool.rec (fun _=>Bool) false (@Bool.rec (fun _=>Bool) false r l) (okBl q x)) t
def subK (m:Nat)(p:KW):KW:=⟨subA m p.a,subA m p.x,subTB m p.t,p.lo,p.nx⟩
def chkW (p:KW)(r:Nat→Nat)(n m:Nat)(F:A→H→R):Bool:=@Bool.rec (fun _=>Bool) false (@Bool.rec (fun _=>Bool) false (@Bool.rec (fun _=>Bool) false (@Bool.rec (fun _=>Bool) false (@Bool.rec (fun _=>Bool) false (@Bool.rec (fun _=>Bool) false (okW (subK m p) r n (F (subA m p.a) (.mk .lf (nat_lit 0) (nat_lit 0)))) (flat (subA m p.a))) (fullB (subTB m p.t) p.nx)) (Nat.ble p.lo p.nx)) (okTB (okK m) p.t)) (okK m p.x)) (okF p.a)
end
variable [Nu]
theorem okTA_get {q:A→Bool}(hj:q .nl=true):∀(t:T A),okTA q t=true→∀ i,q (tget junk t i)=true
  |.lf,_,i=>hj
  |.nd x l r,h,i=>by
    obtain⟨h1,h⟩:=brec_and (x:=q x) (y:=@Bool.rec (fun _=>Bool) false (okTA q r) (okTA q l)) h
    obtain⟨h2,h3⟩:=brec_and h
    rw [tget_nd]
    split
    · exact h1
    · split
      · exact okTA_get hj l h2 _
      · exact okTA_get hj r h3 _
theorem okTB_get {q:A→Bool}:∀(t:T B),okTB q t=true→∀ i,okBl q (tget .no t i)=true
  |.lf,_,i=>rfl
  |.nd x l r,h,i=>by
    obtain⟨h1,h⟩:=brec_and (x:=okBl q x) (y:=@Bool.rec (fun _=>Bool) false (okTB q r) (okTB q l)) h
    obtain⟨h2,h3⟩:=brec_and h
    rw [tget_nd]
    split
    · exact h1
    · split
      · exact okTB_get l h2 _
      · exact okTB_get r h3 _
theorem subT_get (m:Nat):∀(t:T A) (i:Nat),tget junk (subT m t) i=subA m (tget junk t i)
  |.lf,i=>rfl
  |.nd x l q,i=>by
    show tget junk (.nd (subA m x) (subT m l) (subT m q)) i=_
    rw [tget_nd,tget_nd,subT_get m l,subT_get m q]
    split
    · rfl
    · split<;>rfl
theorem subTB_get (m:Nat):∀(t:T B) (i:Nat),tget .no (subTB m t) i=subB m (tget .no t i)
  |.lf,i=>rfl
  |.nd x l q,i=>by
    show tget .no (.nd (subB m x) (subTB m l) (subTB m q)) i=_
    rw [tget_nd,tget_nd,subTB_get m l,subTB_get m q]
    split
    · rfl
    · split<;>rfl
theorem subT_full (m:Nat):∀(t:T A) (n:Nat),Full (subT m t) n↔Full t n
  |.lf,n=>Iff.rfl
  |.nd x l q,n=>by
    show(0<n∧Full (subT m l) (n / 2)∧Full (subT m q) ((n-1) / 2))↔(0<n∧Full l (n / 2)∧Full q ((n-1) / 2))
    rw [subT_full m l,subT_full m q]
theorem subTB_full (m:Nat):∀(t:T B) (n:Nat),Full (subTB m t) n↔Full t n
  |.lf,n=>Iff.rfl
  |.nd x l q,n=>by
    show(0<n∧Full (subTB m l) (n / 2)∧Full (subTB m q) ((n-1) / 2))↔(0<n∧Full l (n / 2)∧Full q ((n-1) / 2))
    rw [subTB_full m l,subTB_full m q]
theorem brec_ne {b x:Bool}(h:(@Bool.rec (fun _=>Bool) x false b)=true):b=false∧x=true:=by
  cases b
  · exact⟨rfl,h⟩
  · cases h
theorem beqF {a b:Nat}(h:Nat.beq a b=false):a≠b:=fun e=>by subst e;rw [Nat.beq_refl]at h;cases h
theorem b48 {v:Nat}(h:v<10):(UInt8.ofNat (48+v)).toNat=48+v:=by
  rw [UInt8.toNat_ofNat']
  exact Nat.mod_eq_of_lt (by omega)
theorem enc_cons (b:UInt8)(r:List UInt8):encB (b::r)=b.toNat+encB r * 256:=rfl
theorem dec_sub:∀(f v:Nat),v<10 ^ (f+1)→∀ r:List UInt8,(Lib.decDigits v++r).length=dlen f v+r.length∧encB (Lib.decDigits v++r)=dnc f v (encB r)
  |0,v,h,r=>by
    have h:v<10:=by simpa using h
    rw [Lib.decDigits,dif_pos h]
    refine⟨Nat.add_comm _ 1,?_⟩
    show(UInt8.ofNat (48+v)).toNat+encB r * 256=48+v+encB r * 256
    rw [b48 h]
  |f+1,v,h,r=>by
    have e1:dlen (f+1) v=@Bool.rec (fun _=>Nat) (dlen f (v / 10)+1) 1 (Nat.blt v 10):=rfl
    have e2:∀ z,dnc (f+1) v z=@Bool.rec (fun _=>Nat) (dnc f (v / 10) (dgt (v % 10) z)) (dgt v z) (Nat.blt v 10):=fun z=>rfl
    rw [e1,e2,Lib.decDigits,nat_blt]
    by_cases h1:v<10
    · rw [dif_pos h1]
      simp only [h1,decide_true]
      refine⟨Nat.add_comm _ 1,?_⟩
      show(UInt8.ofNat (48+v)).toNat+encB r * 256=48+v+encB r * 256
      rw [b48 h1]
    · rw [dif_neg h1]
      simp only [h1,decide_false]
      obtain⟨q1,q2⟩:=dec_sub f (v / 10) (by rw [Nat.pow_succ]at h;omega) (UInt8.ofNat (48+v % 10)::r)
      rw [List.append_assoc,List.singleton_append,q1,q2]
      refine⟨by rw [List.length_cons];omega,?_⟩
      rw [enc_cons,b48 (show v % 10<10 by omega)]
      rfl
section
variable {m:Nat} (hv:∀ i,Nu.val i=vl m i)
include hv
theorem it_sub (i:Nat)(h1:Nu.val i≤999)(r:List UInt8):(itB (Nu.val i)++r).length=itn (vl m i)+r.length∧encB (itB (Nu.val i)++r)=ite' (vl m i) (encB r):=by
  rw [hv]at h1 ⊢
  unfold itB itn ite' dgt
  rw [nat_blt,nat_blt]
  by_cases a:vl m i<10
  · rw [if_pos a]
    simp only [a,decide_true,List.cons_append,List.nil_append,List.length_cons,enc_cons,b48 a]
    exact⟨Nat.add_comm _ _,rfl⟩
  · rw [if_neg a]
    by_cases b:vl m i<100
    · rw [if_pos b]
      simp only [a,b,decide_true,decide_false,List.cons_append,List.nil_append,List.length_cons,enc_cons,b48 (show vl m i / 10<10 by omega),b48 (show vl m i % 10<10 by omega)]
      exact⟨Nat.add_comm _ 2,rfl⟩
    · rw [if_neg b]
      simp only [a,b,decide_false,List.cons_append,List.nil_append,List.length_cons,enc_cons,b48 (show vl m i / 100<10 by omega),b48 (show vl m i / 10 % 10<10 by omega),b48 (show vl m i % 10<10 by omega)]
      exact⟨Nat.add_comm _ 3,rfl⟩
theorem pcs_ex:∀(l:A),okPK m l=true→okP l=true∧∃ bs,Pcs bs l:=by
  intro l
  induction l with
  |nl=>exact fun _=>⟨rfl,[],.nil⟩
  |cn x y _ ih=>
    intro hk
    cases x with
    |byt c=>
      obtain⟨k1,hk⟩:=brec_and (x:=Nat.blt c 256) (y:=okPK m y) hk
      obtain⟨h1,bs,h2⟩:=ih hk
      have e:(UInt8.ofNat c).toNat=c:=by rw [UInt8.toNat_ofNat'];exact Nat.mod_eq_of_lt (blt k1)
      have:=Pcs.byt (b:=UInt8.ofNat c) h2
      rw [e]at this
      exact⟨h1,_,this⟩
    |ref g b o i=>
      have hk:(@Bool.rec (fun _=>Bool) false (@Bool.rec (fun _=>Bool) false (@Bool.rec (fun _=>Bool) (@Bool.rec (fun _=>Bool) false (@Bool.rec (fun _=>Bool) false (okPK m y) (Nat.beq o 0)) (Nat.beq b 4)) (@Bool.rec (fun _=>Bool) false (okPK m y) (Nat.ble (vl m o) 999)) (Nat.beq b 5)) (Nat.ble (vl m i) 999)) (Nat.beq g 8))=true:=hk
      obtain⟨k1,hk1⟩:=brec_and hk
      obtain⟨k2,hk2⟩:=brec_and hk1
      clear hk hk1
      have g1:g=8:=beq k1
      have k2:=ble k2
      clear k1
      subst g1
      cases h5:Nat.beq b 5
      · rw [h5]at hk2
        obtain⟨k3,hk3⟩:=brec_and hk2
        obtain⟨k4,hk4⟩:=brec_and hk3
        clear hk2 hk3
        have g3:b=4:=beq k3
        have g4:o=0:=beq k4
        clear k3 k4
        subst g3;subst g4
        obtain⟨h1,bs,h2⟩:=ih hk4
        exact⟨h1,_,.it (by rw [hv];exact k2) h2⟩
      · rw [h5]at hk2
        obtain⟨k3,hk3⟩:=brec_and hk2
        have g5:b=5:=beq h5
        clear hk2
        subst g5
        obtain⟨h1,bs,h2⟩:=ih hk3
        exact⟨h1,_,.tx (by rw [hv];exact ble k3) (by rw [hv];exact k2) h2⟩
    |_=>cases hk
  |_=>intro hk;cases hk
theorem pcs_sub:∀(l:A) (bs:List UInt8),okP l=true→Pcs bs l→bs.length=pl m l∧encB bs=pe m l:=by
  intro l
  induction l with
  |cn x y _ ih=>
    intro bs hk h
    cases x with
    |byt n=>
      cases h with
      |byt h=>
        obtain⟨e1,e2⟩:=ih _ hk h
        refine⟨?_,?_⟩
        · show _+1=pl m y+1
          rw [e1]
        · show _=_+pe m y * 256
          rw [enc_cons,e2]
    |ref g b o i=>
      have hk:(@Bool.rec (fun _=>Bool) false (@Bool.rec (fun _=>Bool) (@Bool.rec (fun _=>Bool) false (okP y) (Nat.beq b 4)) (okP y) (Nat.beq b 5)) (Nat.beq g 8))=true:=hk
      obtain⟨k1,hk⟩:=brec_and hk
      have k1:=beq k1
      subst k1
      cases h5:Nat.beq b 5
      case true=>
        rw [h5]at hk
        have h5:=beq h5
        subst h5
        cases h with
        |@tx r _ _ _ hi hj h=>
          obtain⟨e1,e2⟩:=ih _ hk h
          have e3:Nu.val o * Nu.val i / 2=hfv m o i:=by rw [hv,hv];rfl
          obtain⟨q1,q2⟩:=dec_sub 5 (Nu.val o * Nu.val i / 2) (hf_le hi hj) r
          refine⟨?_,?_⟩
          · rw [q1,e1,e3];rfl
          · rw [q2,e2,e3];rfl
      rw [h5]at hk
      obtain⟨k2,hk⟩:=brec_and hk
      have k2:=beq k2
      subst k2
      cases h with
      |@it r _ _ h1 h=>
        obtain⟨e1,e2⟩:=ih _ hk h
        obtain⟨q1,q2⟩:=it_sub hv i h1 r
        refine⟨?_,?_⟩
        · rw [q1,e1];rfl
        · rw [q2,e2];rfl
    |_=>cases h
  |nl=>
    intro bs hk h
    cases h
    exact⟨rfl,rfl⟩
  |_=>intro bs hk h;cases hk
theorem sub_fwd {α:Al}:∀(x:A),okF x=true→(∀ v,Rep α v x→Rep α v (subA m x))∧(∀ vs,RepL α vs x→RepL α vs (subA m x)):=by
  intro x
  induction x with
  |ref g b u i=>
    refine fun _=>⟨fun v h=>?_,fun vs h=>(by cases h)⟩
    show Rep α v (@Bool.rec (fun _=>A) (.ref g b u i) (@Bool.rec (fun _=>A) (.ref g b u i) (.int (9223372036854775808+vl m i)) (Nat.beq b 0)) (Nat.beq g 8))
    cases e1:Nat.beq g 8
    · exact h
    · cases e2:Nat.beq b 0
      · exact h
      · have e1:=beq e1
        have e2:=beq e2
        subst e1;subst e2
        obtain⟨rfl,_,_⟩:=rep_sm h
        rw [hv]
        exact .int (by omega)
  |nd g l ih=>
    intro hk
    refine⟨fun v h=>?_,fun vs h=>(by cases h)⟩
    have hk:(@Bool.rec (fun _=>Bool) (okF l) (okP l) (Nat.beq g 2))=true:=hk
    show Rep α v (@Bool.rec (fun _=>A) (.nd g (subA m l)) (.str (pl m l) (pe m l)) (Nat.beq g 2))
    cases e1:Nat.beq g 2
    · rw [e1]at hk
      obtain⟨_,i2⟩:=ih hk
      cases h with
      |agg h h1=>exact .agg (i2 _ h) h1
      |tup h=>exact .tup (i2 _ h)
      |fn hg h=>exact .fn hg (i2 _ h)
      |pst h=>cases e1
    · rw [e1]at hk
      have e1:=beq e1
      subst e1
      cases h with
      |pst h=>
        obtain⟨q1,q2⟩:=pcs_sub hv l _ hk h
        exact .str q1 q2
      |fn hg h=>omega
  |cn x y ihx ihy=>
    intro hk
    obtain⟨k1,k2⟩:=brec_and (x:=okF x) (y:=okF y) hk
    refine⟨fun v h=>(by cases h),fun vs h=>?_⟩
    cases h with
    |cons h t=>exact .cons ((ihx k1).1 _ h) ((ihy k2).2 _ t)
  |_=>exact fun _=>⟨fun v h=>h,fun vs h=>h⟩
theorem sub_bwd {α:Al}:∀(x:A),okK m x=true→(∀ v,Rep α v (subA m x)→Rep α v x)∧(∀ vs,RepL α vs (subA m x)→RepL α vs x):=by
  intro x
  induction x with
  |ref g b u i=>
    intro hk
    have hk:(@Bool.rec (fun _=>Bool) true (@Bool.rec (fun _=>Bool) true (@Bool.rec (fun _=>Bool) false (Nat.ble u 999) (Nat.ble (vl m i) u)) (Nat.beq b 0)) (Nat.beq g 8))=true:=hk
    have key:∀ v,Rep α v (@Bool.rec (fun _=>A) (.ref g b u i) (@Bool.rec (fun _=>A) (.ref g b u i) (.int (9223372036854775808+vl m i)) (Nat.beq b 0)) (Nat.beq g 8))→Rep α v (.ref g b u i):=by
      intro v h
      cases e1:Nat.beq g 8
      · rw [e1]at h;exact h
      · cases e2:Nat.beq b 0
        · rw [e1,e2]at h;exact h
        · rw [e1,e2]at h hk
          have e1:=beq e1
          have e2:=beq e2
          subst e1;subst e2
          obtain⟨k1,k2⟩:=brec_and hk
          obtain⟨z,rfl,hz⟩:=rep_int h
          have e:z=((vl m i:Nat):Int):=by omega
          rw [e,← hv]
          exact .ref (.sm (by rw [hv];exact ble k1) (ble k2))
    refine⟨key,fun vs h=>?_⟩
    exfalso
    have h:RepL α vs (@Bool.rec (fun _=>A) (.ref g b u i) (@Bool.rec (fun _=>A) (.ref g b u i) (.int (9223372036854775808+vl m i)) (Nat.beq b 0)) (Nat.beq g 8)):=h
    cases e1:Nat.beq g 8
    · rw [e1]at h;cases h
    · cases e2:Nat.beq b 0<;>(rw [e1,e2]at h;cases h)
  |nd g l ih=>
    intro hk
    have hk:(@Bool.rec (fun _=>Bool) (okK m l) (okPK m l) (Nat.beq g 2))=true:=hk
    cases e1:Nat.beq g 2
    case true=>
      rw [e1]at hk
      have e1:=beq e1
      subst e1
      refine⟨fun v h=>?_,fun vs h=>(by cases h)⟩
      have h:Rep α v (.str (pl m l) (pe m l)):=h
      obtain⟨s,rfl,q1,q2⟩:=rep_str h
      obtain⟨k1,bs,k2⟩:=pcs_ex hv l hk
      obtain⟨q3,q4⟩:=pcs_sub hv l bs k1 k2
      have e:s.data.toList=bs:=encB_inj _ _ (q1.trans q3.symm) (q2.trans q4.symm)
      exact .pst (by rw [e];exact k2)
    rw [e1]at hk
    obtain⟨_,i2⟩:=ih hk
    have es:subA m (.nd g l)=.nd g (subA m l):=by
      show @Bool.rec (fun _=>A) (.nd g (subA m l)) (.str (pl m l) (pe m l)) (Nat.beq g 2)=_
      rw [e1]
    rw [es]
    refine⟨fun v h=>?_,fun vs h=>(by cases h)⟩
    cases h with
    |agg h h1=>exact .agg (i2 _ h) h1
    |tup h=>exact .tup (i2 _ h)
    |fn hg h=>exact .fn hg (i2 _ h)
    |pst h=>cases e1
  |cn x y ihx ihy=>
    intro hk
    obtain⟨k1,k2⟩:=brec_and (x:=okK m x) (y:=okK m y) hk
    refine⟨fun v h=>(by cases h),fun vs h=>?_⟩
    have h:RepL α vs (.cn (subA m x) (subA m y)):=h
    cases h with
    |cons h t=>exact .cons ((ihx k1).1 _ h) ((ihy k2).2 _ t)
  |_=>exact fun _=>⟨fun v h=>h,fun vs h=>h⟩
theorem br_fwd {α:Al}{w:World}{L:Loc}{b:B}(hk:okBl okF b=true)(h:BR α w L b):BR α w L (subB m b):=by
  cases b with
  |no=>trivial
  |mp k e=>exact h
  |cs n lo t=>
    obtain⟨a1,a2,a3,⟨q,a4,a5⟩,cs,el,a6,a7,a8⟩:=h
    exact⟨a1,a2,a3,⟨q,(subT_full m t q).2 a4,a5⟩,cs,el,a6,a7,fun i i1 i2=>let ⟨v,v1,v2,v3⟩:=a8 i i1 i2;⟨v,v1,v2,by rw [subT_get];exact(sub_fwd hv _ (okTA_get rfl t hk i)).1 _ v3⟩⟩
theorem br_bwd {α:Al}{w:World}{L:Loc}{b:B}(hk:okBl (okK m) b=true)(h:BR α w L (subB m b)):BR α w L b:=by
  cases b with
  |no=>trivial
  |mp k e=>exact h
  |cs n lo t=>
    obtain⟨a1,a2,a3,⟨q,a4,a5⟩,cs,el,a6,a7,a8⟩:=h
    refine⟨a1,a2,a3,⟨q,(subT_full m t q).1 a4,a5⟩,cs,el,a6,a7,fun i i1 i2=>?_⟩
    obtain⟨v,v1,v2,v3⟩:=a8 i i1 i2
    rw [subT_get]at v3
    exact⟨v,v1,v2,(sub_bwd hv _ (okTA_get rfl t hk i)).1 _ v3⟩
theorem KWOK.sub {P:Program}{W0:World}{f:Nat}{p:KW}(ha:okF p.a=true)(hx:okK m p.x=true)(ht:okTB (okK m) p.t=true)(h:KWOK P W0 f (subK m p)):KWOK P W0 f p:=by
  refine⟨h.fn,h.le,(subTB_full m p.t _).1 h.full,fun α w args hw hr=>(h.ans α w args hw ((sub_fwd hv _ ha).2 _ hr)).mono ?_⟩
  rintro e w' ⟨u,α',rfl,g1,g2,g3,g4⟩
  refine⟨u,α',rfl,g1,g2,⟨g3.dom,fun b L e=>?_,g3.dis⟩,(sub_bwd hv _ hx).1 _ g4⟩
  have:=g3.blk b L e
  rw [show (subK m p).t=subTB m p.t from rfl,subTB_get]at this
  exact br_bwd hv (okTB_get p.t ht b) this
theorem kwS_of {P:Program}{W0:World}{k:K}{f:Nat}{p:KW}{r:Nat→Nat}{n:Nat}(hk:CallOK P W0 k)(h:chkW p r n m (k f)=true):KWOK P W0 f p:=by
  obtain⟨h1,h⟩:=brec_and (x:=okF p.a) (y:=@Bool.rec (fun _=>Bool) false (@Bool.rec (fun _=>Bool) false (@Bool.rec (fun _=>Bool) false (@Bool.rec (fun _=>Bool) false (@Bool.rec (fun _=>Bool) false (okW (subK m p) r n (k f (subA m p.a) (.mk .lf 0 0))) (flat (subA m p.a))) (fullB (subTB m p.t) p.nx)) (Nat.ble p.lo p.nx)) (okTB (okK m) p.t)) (okK m p.x)) h
  obtain⟨h2,h⟩:=brec_and h
  obtain⟨h3,h⟩:=brec_and h
  obtain⟨h4,h⟩:=brec_and h
  obtain⟨h5,h⟩:=brec_and h
  obtain⟨h6,h⟩:=brec_and h
  exact KWOK.sub hv h1 h2 h3 (kw_of (p:=subK m p) hk h4 h5 h6 h)
end
end Go.X1

set_option maxRecDepth 100000
namespace Go.X1
noncomputable section
def wk (y:A):Bool→A→Bool:=@A.rec (fun _=>Bool→A→Bool) (fun n _ x=>eqA (.int n) x) (fun n _ x=>eqA (.byt n) x) (fun b _ x=>eqA (.bool b) x) (fun n N _ x=>eqA (.str n N) x) (fun g b o n _ x=>eqA (.ref g b o n) x) (fun g l ih _ x=>@A.rec (fun _=>Bool) (fun _=>false) (fun _=>false) (fun _=>false) (fun _ _=>false) (fun _ _ _ _=>false) (fun g2 l2 _=>@Bool.rec (fun _=>Bool) false (@Bool.rec (fun _=>Bool) (ih true l2) (eqA l l2) (Nat.beq g (nat_lit 2))) (Nat.beq g g2)) false (fun _ _ _ _=>false) x) (fun f x=>@Bool.rec (fun _=>Bool) true (eqA .nl x) f) (fun _ _ ia ir _ x=>@A.rec (fun _=>Bool) (fun _=>false) (fun _=>false) (fun _=>false) (fun _ _=>false) (fun _ _ _ _=>false) (fun _ _ _=>false) false (fun a r _ _=>@Bool.rec (fun _=>Bool) false (ir true r) (ia false a)) x) y
def wkT (t:T A):T A→Bool:=@T.rec A (fun _=>T A→Bool) (fun u=>@T.rec A (fun _=>Bool) true (fun _ _ _ _ _=>false) u) (fun y _ _ il ir u=>@T.rec A (fun _=>Bool) false (fun x l r _ _=>@Bool.rec (fun _=>Bool) false (@Bool.rec (fun _=>Bool) false (ir r) (il l)) (wk y false x)) u) t
def wkB (y x:B):Bool:=@B.rec (fun _=>Bool) false (fun n lo t=>@B.rec (fun _=>Bool) false (fun m l u=>@Bool.rec (fun _=>Bool) false (@Bool.rec (fun _=>Bool) false (wkT t u) (Nat.beq lo l)) (Nat.beq n m)) (fun _ _=>false) x) (fun _ _=>false) y
def blksK (r:Nat→Nat)(s m:Nat)(u t:T B)(n:Nat):Nat→Nat→Bool:=@Nat.rec (fun _=>Nat→Nat→Bool) (fun i _=>Nat.beq i m) (fun _ ih i b=>@Bool.rec (fun _=>Bool) false (@Bool.rec (fun _=>Bool) false (@Bool.rec (fun _=>Bool) false (ih (Nat.succ i) (Nat.succ (r i))) (wkB (renB r (tget .no u i)) (tget .no t (r i)))) (okB s m (tget .no u i))) (Nat.ble b (r i))) n
def alive (u:T B)(n:Nat):Bool:=@Nat.rec (fun _=>Bool) true (fun i ih=>@Bool.rec (fun _=>Bool) false ih (@B.rec (fun _=>Bool) false (fun _ _ _=>true) (fun _ _=>true) (tget .no u i))) n
structure KB where
  a:A
  h:H
  x:A
  t:T B
  lo:Nat
  nx:Nat
def KB.kw (p:KB):KW:=⟨p.a,p.x,p.t,p.lo,p.nx⟩
def fKB (p:KB)(r:List Nat)(F:K→A→H→R)(k:K)(a:A)(h:H):R:=oH h fun t nx ro=>oH p.h fun u m _=>@Bool.rec (fun _=>R) (F k a h) (@Bool.rec (fun _=>R) (F k a h) (@Bool.rec (fun _=>R) (F k a h) (@Bool.rec (fun _=>R) (F k a h) (@Bool.rec (fun _=>R) (F k a h) (.go (nat_lit 1) (.cn p.x .nl) (.mk (mergeT t p.t) p.nx ro)) (Nat.ble nx p.lo)) (nodupL r)) (blksOK r m u t r (nat_lit 0))) (okA (nat_lit 0) m p.a)) (eqA (renA (rget r) p.a) a)
def okKB (p:KB)(r:Nat→Nat)(n:Nat)(z:R):Bool:=@R.rec (fun _=>Bool) false (fun e vs h=>@Bool.rec (fun _=>Bool) false (@Bool.rec (fun _=>Bool) false (@Bool.rec (fun _=>Bool) false (@H.rec (fun _=>Bool) (fun t _ _=>blksK r p.lo p.nx p.t t n p.lo p.h.nx) h) (@A.rec (fun _=>Bool) (fun _=>false) (fun _=>false) (fun _=>false) (fun _ _=>false) (fun _ _ _ _=>false) (fun _ _ _=>false) false (fun v _ _ _=>wk (renA r p.x) false v) vs)) (okA p.lo p.nx p.x)) (Nat.beq e (nat_lit 1))) z
def subKB (m:Nat)(p:KB):KB:=⟨subA m p.a,subH m p.h,subA m p.x,subTB m p.t,p.lo,p.nx⟩
def chkB0 (p:KB):Bool:=@Bool.rec (fun _=>Bool) false (@Bool.rec (fun _=>Bool) false (@Bool.rec (fun _=>Bool) false (@Bool.rec (fun _=>Bool) false (fullB p.h.tr p.h.nx) (fullB p.t p.nx)) (Nat.ble p.lo p.nx)) (okTB okF p.h.tr)) (okF p.a)
def chkB1 (p:KB)(r:Nat→Nat)(n m:Nat)(F:A→H→R):Bool:=@Bool.rec (fun _=>Bool) false (@Bool.rec (fun _=>Bool) false (okKB (subKB m p) r n (F (subA m p.a) (H.lck (subH m p.h)))) (alive (subTB m p.h.tr) p.h.nx)) (@Bool.rec (fun _=>Bool) false (@Bool.rec (fun _=>Bool) false (okK m p.x) (okTB (okK m) p.t)) (okTB (okK m) p.h.tr))
end
variable [Nu]
theorem wk_rep {α:Al}:∀(y:A),(∀ x v,wk y false x=true→Rep α v x→Rep α v y)∧(∀ x vs,wk y true x=true→RepL α vs x→RepL α vs y):=by
  intro y
  induction y with
  |int n=>exact⟨fun x v h g=>by have e:=eqA_eq (.int n) x h;rw [e];exact g,fun x v h g=>by have e:=eqA_eq (.int n) x h;rw [e];exact g⟩
  |byt n=>exact⟨fun x v h g=>by have e:=eqA_eq (.byt n) x h;rw [e];exact g,fun x v h g=>by have e:=eqA_eq (.byt n) x h;rw [e];exact g⟩
  |bool n=>exact⟨fun x v h g=>by have e:=eqA_eq (.bool n) x h;rw [e];exact g,fun x v h g=>by have e:=eqA_eq (.bool n) x h;rw [e];exact g⟩
  |str n N=>exact⟨fun x v h g=>by have e:=eqA_eq (.str n N) x h;rw [e];exact g,fun x v h g=>by have e:=eqA_eq (.str n N) x h;rw [e];exact g⟩
  |ref g b o n=>exact⟨fun x v h r=>by have e:=eqA_eq (.ref g b o n) x h;rw [e];exact r,fun x v h r=>by have e:=eqA_eq (.ref g b o n) x h;rw [e];exact r⟩
  |nl=>exact⟨fun x v h g=>.unk v,fun x v h g=>by have e:=eqA_eq .nl x h;rw [e];exact g⟩
  |nd g l ih=>
    have key:∀ x f,wk (.nd g l) f x=true→∃ l2,x=.nd g l2∧(Nat.beq g 2=true∧l=l2∨Nat.beq g 2=false∧wk l true l2=true):=fun x f h=>by
      cases x with
      |nd g2 l2=>
        have h:(@Bool.rec (fun _=>Bool) false (@Bool.rec (fun _=>Bool) (wk l true l2) (eqA l l2) (Nat.beq g 2)) (Nat.beq g g2))=true:=h
        obtain⟨h1,h2⟩:=brec_and h
        have h1:=beq h1
        subst h1
        refine⟨l2,rfl,?_⟩
        cases e:Nat.beq g 2
        · rw [e]at h2
          exact .inr ⟨rfl,h2⟩
        · rw [e]at h2
          exact .inl ⟨rfl,eqA_eq _ _ h2⟩
      |_=>cases (show false=true from h)
    refine⟨fun x v h r=>?_,fun x vs h r=>?_⟩
    · obtain⟨l2,e0,h2⟩:=key x _ h
      clear h
      subst e0
      rcases h2 with ⟨_,e1⟩|⟨e,h⟩
      · rw [e1];exact r
      · cases r with
        |agg r h1=>exact .agg (ih.2 _ _ h r) h1
        |tup r=>exact .tup (ih.2 _ _ h r)
        |fn hg r=>exact .fn hg (ih.2 _ _ h r)
        |pst r=>cases e
    · obtain⟨l2,rfl,h⟩:=key x _ h
      cases r
  |cn a s iha ihs=>
    have key:∀ x f,wk (.cn a s) f x=true→∃ a2 s2,x=.cn a2 s2∧wk a false a2=true∧wk s true s2=true:=fun x f h=>by
      cases x with
      |cn a2 s2=>
        obtain⟨h1,h2⟩:=brec_and (x:=wk a false a2) (y:=wk s true s2) h
        exact⟨a2,s2,rfl,h1,h2⟩
      |_=>cases h
    refine⟨fun x v h r=>?_,fun x vs h r=>?_⟩
    · obtain⟨a2,s2,rfl,_,_⟩:=key x _ h
      cases r
    · obtain⟨a2,s2,rfl,h1,h2⟩:=key x _ h
      cases r with
      |cons r t=>exact .cons (iha.1 _ _ h1 r) (ihs.2 _ _ h2 t)
theorem wkT_get:∀(t u:T A),wkT t u=true→∀ i,wk (tget junk t i) false (tget junk u i)=true
  |.lf,u,h,i=>rfl
  |.nd y l r,.lf,h,i=>by cases h
  |.nd y l r,.nd x l2 r2,h,i=>by
    obtain⟨h1,h⟩:=brec_and (x:=wk y false x) (y:=@Bool.rec (fun _=>Bool) false (wkT r r2) (wkT l l2)) h
    obtain⟨h2,h3⟩:=brec_and h
    rw [tget_nd,tget_nd]
    split
    · exact h1
    · split
      · exact wkT_get l l2 h2 _
      · exact wkT_get r r2 h3 _
theorem wkT_full:∀(t u:T A) (n:Nat),wkT t u=true→Full u n→Full t n
  |.lf,.lf,n,h,g=>g
  |.lf,.nd _ _ _,n,h,g=>by cases h
  |.nd y l r,.lf,n,h,g=>by cases h
  |.nd y l r,.nd x l2 r2,n,h,g=>by
    obtain⟨h1,h⟩:=brec_and (x:=wk y false x) (y:=@Bool.rec (fun _=>Bool) false (wkT r r2) (wkT l l2)) h
    obtain⟨h2,h3⟩:=brec_and h
    exact⟨g.1,wkT_full l l2 _ h2 g.2.1,wkT_full r r2 _ h3 g.2.2⟩
theorem wkB_br {α:Al}{w:World}{L:Loc}{y x:B}(h:wkB y x=true)(g:BR α w L x):BR α w L y:=by
  cases y with
  |no=>trivial
  |mp k e=>cases h
  |cs n lo t=>
    cases x with
    |cs m l u=>
      obtain⟨h1,h⟩:=brec_and (x:=Nat.beq n m) (y:=@Bool.rec (fun _=>Bool) false (wkT t u) (Nat.beq lo l)) h
      obtain⟨h2,h3⟩:=brec_and h
      have h1:=beq h1
      have h2:=beq h2
      subst h1;subst h2
      obtain⟨a1,a2,a3,⟨q,a4,a5⟩,cs,el,a6,a7,a8⟩:=g
      exact⟨a1,a2,a3,⟨q,wkT_full t u q h3 a4,a5⟩,cs,el,a6,a7,fun i i1 i2=>let ⟨v,v1,v2,v3⟩:=a8 i i1 i2;⟨v,v1,v2,(wk_rep _).1 _ _ (wkT_get t u h3 i) v3⟩⟩
    |_=>cases h
theorem blksK_spec {r:Nat→Nat}{s m:Nat}{u t:T B}:∀(n i b:Nat),blksK r s m u t n i b=true→n+i=m∧∀ j,i≤j→j<m→b≤r j∧(∀ j',i≤j'→j'<j→r j'<r j)∧okB s m (tget .no u j)=true∧wkB (renB r (tget .no u j)) (tget .no t (r j))=true
  |0,i,b,h=>by
    have:i=m:=beq h
    exact⟨by omega,fun j h1 h2=>by omega⟩
  |n+1,i,b,h=>by
    obtain⟨h1,h⟩:=brec_and (x:=Nat.ble b (r i)) (y:=@Bool.rec (fun _=>Bool) false (@Bool.rec (fun _=>Bool) false (blksK r s m u t n (i+1) (r i+1)) (wkB (renB r (tget .no u i)) (tget .no t (r i)))) (okB s m (tget .no u i))) h
    obtain⟨h2,h⟩:=brec_and h
    obtain⟨h3,h4⟩:=brec_and h
    obtain⟨q1,q2⟩:=blksK_spec n (i+1) _ h4
    refine⟨by omega,fun j j1 j2=>?_⟩
    by_cases e:j=i
    · subst e
      exact⟨ble h1,fun j' a1 a2=>by omega,h2,h3⟩
    · obtain⟨a1,a2,a3,a4⟩:=q2 j (by omega) j2
      refine⟨by have:=ble h1;omega,fun j' b1 b2=>?_,a3,a4⟩
      by_cases e':j'=i
      · subst e';omega
      · exact a2 j' (by omega) b2
theorem alive_spec {u:T B}:∀(n:Nat),alive u n=true→∀ b,b<n→tget .no u b≠ .no
  |0,_,b,h=>absurd h (Nat.not_lt_zero _)
  |n+1,h,b,hb=>by
    obtain⟨h1,h2⟩:=brec_and (x:=@B.rec (fun _=>Bool) false (fun _ _ _=>true) (fun _ _=>true) (tget .no u n)) (y:=alive u n) h
    by_cases e:b=n
    · subst e
      intro q
      rw [q]at h1
      cases h1
    · exact alive_spec n h2 b (by omega)
structure KBOK (P:Program) (W0:World) (f:Nat) (p:KB):Prop where
  fn:FnOK P f
  le:p.lo≤p.nx
  full:Full p.t p.nx
  fullh:Full p.h.tr p.h.nx
  ans:∀(α:Al) (w:World) (args:List Value),HR W0 α w p.h.lck→RepL α args p.a→Calls P f ⟨args⟩ w (fun e w'=>∃ u α',e=.returned u∧Step W0 α w p.h.lck α w' p.h.lck∧KWB α' w w' p.kw∧Rep α' u p.x)
theorem kb_of {P:Program}{W0:World}{k:K}{f:Nat}{p:KB}{r:Nat→Nat}{n:Nat}(hk:CallOK P W0 k)(hle:Nat.ble p.lo p.nx=true)(hfull:fullB p.t p.nx=true)(hfh:fullB p.h.tr p.h.nx=true)(hal:alive p.h.tr p.h.nx=true)(h:okKB p r n (k f p.a p.h.lck)=true):KBOK P W0 f p:=by
  cases hz:k f p.a p.h.lck with
  |bad=>rw [hz]at h;cases h
  |go e vs h1=>
    rw [hz]at h
    cases h1 with |mk t nx ro=>
    obtain⟨g1,h⟩:=brec_and (x:=Nat.beq e 1) (y:=@Bool.rec (fun _=>Bool) false (@Bool.rec (fun _=>Bool) false (blksK r p.lo p.nx p.t t n p.lo p.h.nx) (@A.rec (fun _=>Bool) (fun _=>false) (fun _=>false) (fun _=>false) (fun _ _=>false) (fun _ _ _ _=>false) (fun _ _ _=>false) false (fun v _ _ _=>wk (renA r p.x) false v) vs)) (okA p.lo p.nx p.x)) h
    obtain⟨g2,h⟩:=brec_and h
    obtain⟨g3,g4⟩:=brec_and h
    have g1:e=1:=beq g1
    subst g1
    obtain⟨_,hb⟩:=blksK_spec _ _ _ g4
    have live:∀ b,p.lo≤b→b<p.nx→tget .no t (r b)≠ .no:=fun b l1 l2 q=>by
      obtain⟨_,_,q1,q2⟩:=hb b l1 l2
      rw [q]at q2
      cases hu:tget .no p.t b<;>rw [hu]at q1 q2
      · cases q1
      · cases q2
      · cases q1
    have go:∀ v tl,k f p.a p.h.lck=.go 1 (.cn v tl) (.mk t nx ro)→wk (renA r p.x) false v=true→KBOK P W0 f p:=fun v tl hz hv=>by
      obtain⟨hf,hc⟩:=hk f p.a p.h.lck v tl (.mk t nx ro) (by rw [hz];rfl)
      refine⟨hf,ble hle,fullB_spec _ _ hfull,fullB_spec _ _ hfh,fun α w args hw ha=>(hc α w args hw ha).mono ?_⟩
      rintro e w' ⟨u,α1,rfl,s,rp⟩
      have at0:∀{b L},reAl α1 r p.lo p.nx b=some L→(p.lo≤b∧b<p.nx)∧α1 (r b)=some L:=fun{b L} e=>by
        unfold reAl at e
        split at e
        · exact⟨‹_›,e⟩
        · cases e
      have inj:∀ b b',p.lo≤b→b<p.nx→p.lo≤b'→b'<p.nx→r b=r b'→b=b':=fun b b' l1 l2 l3 l4 e=>by
        rcases Nat.lt_trichotomy b b' with q|q|q
        · have:=(hb b' l3 l4).2.1 b l1 q;omega
        · exact q
        · have:=(hb b l1 l2).2.1 b' l3 q;omega
      have hro:H.ro (.mk t nx ro)=p.h.nx:=s.ro.ro
      refine⟨u,reAl α1 r p.lo p.nx,rfl,step_back (h:=p.h.lck) hw s,⟨fun b L e=>?_,fun b L e=>?_,fun b b' L L' e e' q=>?_⟩,?_⟩
      · obtain⟨q1,q2⟩:=at0 e
        obtain⟨d1,d2,d3⟩:=s.hr.dom _ _ q2
        have hge:p.h.nx≤r b:=(hb b q1.1 q1.2).1
        have hfz:L.fz=(0,0):=by
          rcases d2 with d2|d2
          · exact d2.2
          · rw [hro]at d2;omega
        rcases s.ext.new _ _ q2 with n1|⟨_,n2,n3⟩
        · have:r b<p.h.nx:=(hw.dom _ _ n1).1
          omega
        · rcases n3 with n3|⟨b0,L0,n3,n4⟩
          · exact⟨q1.1,q1.2,n3,hfz,d3⟩
          · have hb0:b0<p.h.nx:=(hw.dom _ _ n3).1
            have k0:=s.ro.keep b0 hb0
            have:r b=b0:=s.hr.dis (r b) b0 L L0 q2 (s.ext.le _ _ n3) (live b q1.1 q1.2) (by rw [k0];exact alive_spec _ hal b0 hb0) n4.symm
            omega
      · obtain⟨q1,q2⟩:=at0 e
        obtain⟨_,_,b1,b2⟩:=hb b q1.1 q1.2
        exact(ren_br b1).1 (wkB_br b2 (s.hr.blk _ _ q2))
      · obtain⟨q1,q2⟩:=at0 e
        obtain⟨q3,q4⟩:=at0 e'
        exact inj b b' q1.1 q1.2 q3.1 q3.2 (s.hr.dis _ _ _ _ q2 q4 (live b q1.1 q1.2) (live b' q3.1 q3.2) q)
      · exact((ren_rep _ g2).1 u).1 ((wk_rep _).1 _ _ hv rp)
    cases vs with
    |cn v tl=>exact go v tl hz g3
    |_=>cases g3
theorem lay_step {W0:World}{α α':Al}{w w':World}{t:T B}{nx ro:Nat}{p:KW}(hr:HR W0 α w (.mk t nx ro))(s:Step W0 α w (.mk t nx ro) α w' (.mk t nx ro))(g3:KWB α' w w' p)(h2:nx≤p.lo)(hle:p.lo≤p.nx)(hfp:Full p.t p.nx):
    ∃ α2,Step W0 α w (.mk t nx ro) α2 w' (.mk (mergeT t p.t) p.nx ro)∧Le α' α2:=by
  have hfull:Full t nx:=hr.full
  have old:∀{b L},α b=some L→b<nx:=fun{b L} e=>(hr.dom b L e).1
  have l1:Le α fun b=>if b<p.lo then α b else α' b:=fun b L e=>by
    have:=old e
    show(if b<p.lo then α b else α' b)=some L
    rw [if_pos (by omega)];exact e
  have l2:Le α' fun b=>if b<p.lo then α b else α' b:=fun b L e=>by
    have:=(g3.dom b L e).1
    show(if b<p.lo then α b else α' b)=some L
    rw [if_neg (by omega)];exact e
  have at2:∀{b L},(if b<p.lo then α b else α' b)=some L→(b<nx∧α b=some L)∨(nx≤b∧α' b=some L):=fun{b L} e=>by
    split at e
    · exact .inl ⟨old e,e⟩
    · exact .inr ⟨by omega,e⟩
  refine⟨_,⟨⟨s.hr.agr,?_,merge_full t p.t nx p.nx hfull hfp (by omega),fun b L e=>?_,fun b L e=>?_,fun b b' L L' e e' n1 n2 q=>?_⟩,⟨l1,fun b L e=>?_⟩,s.fr,⟨rfl,?_,fun b hb=>?_⟩,fun b hb e=>?_⟩,l2⟩
  · have:ro≤nx:=hr.ro
    show ro≤p.nx
    omega
  · rcases at2 e with ⟨q1,q2⟩|⟨q1,q2⟩
    · obtain⟨d1,d2,d3⟩:=hr.dom b L q2
      have:=s.fr.size
      exact⟨show b<p.nx by omega,d2,by omega⟩
    · obtain⟨d1,d2,d3,d4,d5⟩:=g3.dom b L q2
      have:=hr.agr.size
      exact⟨d2,.inl ⟨by omega,d4⟩,d5⟩
  · show BR _ w' L (tget .no (mergeT t p.t) b)
    rw [merge_get t p.t nx b hfull]
    rcases at2 e with ⟨q1,q2⟩|⟨q1,q2⟩
    · rw [if_pos q1]
      exact(s.hr.blk b L q2).mono l1
    · rw [if_neg (by omega)]
      exact(g3.blk b L q2).mono l2
  · have n1:tget .no (mergeT t p.t) b≠ .no:=n1
    have n2:tget .no (mergeT t p.t) b'≠ .no:=n2
    rw [merge_get t p.t nx _ hfull]at n1 n2
    rcases at2 e with ⟨q1,q2⟩|⟨q1,q2⟩
    · rw [if_pos q1]at n1
      rcases at2 e' with ⟨q3,q4⟩|⟨q3,q4⟩
      · rw [if_pos q3]at n2
        exact hr.dis b b' L L' q2 q4 n1 n2 q
      · have:=(hr.dom b L q2).2.2
        have:=(g3.dom b' L' q4).2.2.1
        omega
    · rcases at2 e' with ⟨q3,q4⟩|⟨q3,q4⟩
      · have:=(hr.dom b' L' q4).2.2
        have:=(g3.dom b L q2).2.2.1
        omega
      · exact g3.dis b b' L L' q2 q4 q
  · rcases at2 e with ⟨q1,q2⟩|⟨q1,q2⟩
    · exact .inl q2
    · refine .inr ⟨?_,q1,.inl (g3.dom b L q2).2.2.1⟩
      cases h0:α b with
      |none=>rfl
      |some L'=>have:=old h0;omega
  · show nx≤p.nx
    omega
  · have:ro≤nx:=hr.ro
    have hb:b<ro:=hb
    show tget .no (mergeT t p.t) b=tget .no t b
    rw [merge_get t p.t nx b hfull,if_pos (by omega)]
  · have hb:b<nx:=hb
    show tget .no (mergeT t p.t) b=tget .no t b
    rw [merge_get t p.t nx b hfull,if_pos hb]
theorem fKB_ans {P:Program}{W0:World}{k:K}{F:K→A→H→R}{f:Nat}{p:KB}{r:List Nat}(hp:KBOK P W0 f p)(hF:FnAns P W0 f (F k)):FnAns P W0 f (fKB p r F k):=by
  intro a h v q h' hl
  have ih:=hF a h v q h'
  obtain⟨pa,ph,px,pt,plo,pnx⟩:=p
  cases ph with |mk u m ro0=>
  cases h with |mk t nx ro=>
  have hl:R.lf (@Bool.rec (fun _=>R) (F k a (.mk t nx ro)) (@Bool.rec (fun _=>R) (F k a (.mk t nx ro)) (@Bool.rec (fun _=>R) (F k a (.mk t nx ro)) (@Bool.rec (fun _=>R) (F k a (.mk t nx ro)) (@Bool.rec (fun _=>R) (F k a (.mk t nx ro)) (.go 1 (.cn px .nl) (.mk (mergeT t pt) pnx ro)) (Nat.ble nx plo)) (nodupL r)) (blksOK r m u t r 0)) (okA 0 m pa)) (eqA (renA (rget r) pa) a))=some (1,.cn v q,h'):=hl
  rcases rec_lf hl with ⟨h1,hl⟩|⟨_,hl⟩
  case inr=>exact ih hl
  rcases rec_lf hl with ⟨h2,hl⟩|⟨_,hl⟩
  case inr=>exact ih hl
  rcases rec_lf hl with ⟨h3,hl⟩|⟨_,hl⟩
  case inr=>exact ih hl
  rcases rec_lf hl with ⟨h4,hl⟩|⟨_,hl⟩
  case inr=>exact ih hl
  rcases rec_lf hl with ⟨h5,hl⟩|⟨_,hl⟩
  case inr=>exact ih hl
  cases hl
  obtain⟨len,hb⟩:=blksOK_spec r 0 h3
  have nd:=nodupL_spec h4
  have get:∀ b,b<m→r[b]? =some (rget r b):=fun b hbm=>by
    have e:r[b]? =some r[b]:=List.getElem?_eq_getElem (by omega)
    rw [rget_get r b _ e];exact e
  have blk:∀ b,b<m→okB 0 m (tget .no u b)=true∧renB (rget r) (tget .no u b)=tget .no t (rget r b):=fun b hbm=>by
    have:=hb b _ (get b hbm)
    rwa [Nat.zero_add]at this
  have live:∀ b,b<m→tget .no t (rget r b)≠ .no:=fun b hbm e=>by
    obtain⟨q1,q2⟩:=blk b hbm
    rw [e]at q2
    cases hu:tget .no u b<;>rw [hu]at q1 q2
    · cases q1
    · cases q2
    · cases q1
  have inj:∀ b b',b<m→b'<m→rget r b=rget r b'→b=b':=fun b b' l1 l2 e=>by
    have e1:=get b l1
    have e2:=get b' l2
    rw [← e]at e2
    exact(List.getElem?_inj (by omega) nd).1 (e1.trans e2.symm)
  refine⟨hp.fn,fun α w args hr ha=>?_⟩
  have at0:∀{b L},reAl α (rget r) 0 m b=some L→b<m∧α (rget r b)=some L:=fun{b L} e=>by
    unfold reAl at e
    split at e
    · rename_i q
      exact⟨q.2,e⟩
    · cases e
  have ha2:RepL (reAl α (rget r) 0 m) args pa:=by
    rw [← eqA_eq _ _ h1]at ha
    exact((ren_rep pa h2).2 args).1 ha
  have hr1:HR W0 (reAl α (rget r) 0 m) w (.mk u m m):=by
    refine⟨hr.agr,Nat.le_refl _,hp.fullh,fun b L e=>?_,fun b L e=>?_,fun b b' L L' e e' _ _ q=>?_⟩
    · obtain⟨q1,q2⟩:=at0 e
      exact⟨q1,.inr q1,(hr.dom _ _ q2).2.2⟩
    · obtain⟨q1,q2⟩:=at0 e
      have:=hr.blk _ _ q2
      obtain⟨b1,b2⟩:=blk b q1
      refine(ren_br b1).1 ?_
      rw [b2];exact this
    · obtain⟨q1,q2⟩:=at0 e
      obtain⟨q3,q4⟩:=at0 e'
      exact inj b b' q1 q3 (hr.dis _ _ _ _ q2 q4 (live b q1) (live b' q3) q)
  refine(hp.ans (reAl α (rget r) 0 m) w args hr1 ha2).mono ?_
  rintro e w' ⟨z,α1,rfl,s,g3,g4⟩
  have s2:Step W0 α w (.mk t nx ro) α w' (.mk t nx ro):=by
    refine⟨⟨s.hr.agr,hr.ro,hr.full,fun c M e=>?_,fun c M e=>?_,hr.dis⟩,.refl _ _ _,⟨s.fr.size,fun c hc' hn=>s.fr.keep c hc' fun b0 L0 e0=>hn _ L0 (at0 e0).2,s.fr.os,s.fr.out⟩,.refl _,fun _ _ _=>rfl⟩
    · obtain⟨q1,q2,q3⟩:=hr.dom c M e
      exact⟨q1,q2,Nat.lt_of_lt_of_le q3 s.fr.size⟩
    · by_cases hin:∃ b,b<m∧rget r b=c
      · obtain⟨b,q1,rfl⟩:=hin
        have e2:reAl α (rget r) 0 m b=some M:=by unfold reAl;rw [if_pos ⟨Nat.zero_le _,q1⟩];exact e
        have:=s.hr.blk b M e2
        obtain⟨b1,b2⟩:=blk b q1
        show BR α w' M (tget .no t (rget r b))
        rw [← b2]
        exact(ren_br b1).2 this
      · by_cases hd:tget .no t c=.no
        · show BR α w' M (tget .no t c)
          rw [hd];trivial
        · refine(hr.blk c M e).world (s.fr.keep _ (hr.dom c M e).2.2 fun b0 L0 e0 q=>?_)
          obtain⟨q1,q2⟩:=at0 e0
          exact hin ⟨b0,q1,hr.dis _ _ _ _ q2 e (live b0 q1) hd q⟩
  obtain⟨α2,t1,t2⟩:=lay_step hr s2 g3 (ble h5) hp.le hp.full
  exact⟨z,α2,rfl,t1,g4.mono t2⟩
theorem subB_no {m:Nat}{b:B}:subB m b≠ .no↔b≠ .no:=by
  cases b with
  |no=>exact⟨fun h=>absurd rfl h,fun h=>absurd rfl h⟩
  |cs n lo t=>exact⟨fun _ q=>(by cases q),fun _ q=>(by cases q)⟩
  |mp k e=>exact⟨fun _ q=>(by cases q),fun _ q=>(by cases q)⟩
theorem KBOK.sub {P:Program}{W0:World}{f m:Nat}{p:KB}(hv:∀ i,Nu.val i=vl m i)(ha:okF p.a=true)(hh:okTB okF p.h.tr=true)(hk:okTB (okK m) p.h.tr=true)(ht:okTB (okK m) p.t=true)(hx:okK m p.x=true)(h:KBOK P W0 f (subKB m p)):KBOK P W0 f p:=by
  obtain⟨pa,ph,px,pt,plo,pnx⟩:=p
  cases ph with |mk u n ro0=>
  refine⟨h.fn,h.le,(subTB_full m pt _).1 h.full,(subTB_full m u _).1 h.fullh,fun α w args hr hargs=>?_⟩
  have hr1:HR W0 α w (.mk (subTB m u) n n):=by
    refine⟨hr.agr,Nat.le_refl _,(subTB_full m u _).2 hr.full,hr.dom,fun b L e=>?_,fun b b' L L' e e' g g' q=>?_⟩
    · show BR α w L (tget .no (subTB m u) b)
      rw [subTB_get]
      exact br_fwd hv (okTB_get u hh b) (hr.blk b L e)
    · have g:tget .no (subTB m u) b≠ .no:=g
      have g':tget .no (subTB m u) b'≠ .no:=g'
      rw [subTB_get]at g g'
      exact hr.dis b b' L L' e e' (subB_no.1 g) (subB_no.1 g') q
  refine(h.ans α w args hr1 ((sub_fwd hv _ ha).2 _ hargs)).mono ?_
  rintro e w' ⟨z,α1,rfl,s,g3,g4⟩
  refine⟨z,α1,rfl,⟨⟨s.hr.agr,Nat.le_refl _,hr.full,fun b L e=>?_,fun b L e=>?_,hr.dis⟩,.refl _ _ _,s.fr,.refl _,fun _ _ _=>rfl⟩,⟨g3.dom,fun b L e=>?_,g3.dis⟩,(sub_bwd hv _ hx).1 _ g4⟩
  · obtain⟨q1,q2,q3⟩:=hr.dom b L e
    exact⟨q1,q2,Nat.lt_of_lt_of_le q3 s.fr.size⟩
  · have:=s.hr.blk b L e
    have:BR α w' L (tget .no (subTB m u) b):=this
    rw [subTB_get]at this
    exact br_bwd hv (okTB_get u hk b) this
  · have:=g3.blk b L e
    have:BR α1 w' L (tget .no (subTB m pt) b):=this
    rw [subTB_get]at this
    exact br_bwd hv (okTB_get pt ht b) this
theorem fullB_of:∀(t:T B) (n:Nat),Full t n→fullB t n=true
  |.lf,n,h=>by
    have h:n=0:=h
    subst h;rfl
  |.nd x l r,n,h=>by
    obtain⟨h0,h1,h2⟩:=h
    show(@Bool.rec (fun _=>Bool) false (@Bool.rec (fun _=>Bool) false (fullB r ((n-1) / 2)) (fullB l (n / 2))) (Nat.blt 0 n))=true
    rw [fullB_of l _ h1,fullB_of r _ h2,nat_blt]
    simp [h0]
theorem kbS_of {P:Program}{W0:World}{k:K}{f m:Nat}{p:KB}{r:Nat→Nat}{n:Nat}(hv:∀ i,Nu.val i=vl m i)(hk:CallOK P W0 k)(h0:chkB0 p=true)(h:chkB1 p r n m (k f)=true):KBOK P W0 f p:=by
  obtain⟨h1,h0⟩:=brec_and (x:=okF p.a) (y:=@Bool.rec (fun _=>Bool) false (@Bool.rec (fun _=>Bool) false (@Bool.rec (fun _=>Bool) false (fullB p.h.tr p.h.nx) (fullB p.t p.nx)) (Nat.ble p.lo p.nx)) (okTB okF p.h.tr)) h0
  obtain⟨h2,h0⟩:=brec_and h0
  obtain⟨h4,h0⟩:=brec_and h0
  obtain⟨h5,h6⟩:=brec_and h0
  obtain⟨h3,h⟩:=brec_and (x:=@Bool.rec (fun _=>Bool) false (@Bool.rec (fun _=>Bool) false (okK m p.x) (okTB (okK m) p.t)) (okTB (okK m) p.h.tr)) (y:=@Bool.rec (fun _=>Bool) false (okKB (subKB m p) r n (k f (subA m p.a) (H.lck (subH m p.h)))) (alive (subTB m p.h.tr) p.h.nx)) h
  obtain⟨h3,h8⟩:=brec_and h3
  obtain⟨h8,h9⟩:=brec_and h8
  obtain⟨h7,h⟩:=brec_and h
  have e0:∀ h:H,(subH m h).tr=subTB m h.tr∧(subH m h).nx=h.nx:=fun h=>by cases h;exact⟨rfl,rfl⟩
  have e1:(subKB m p).h.tr=subTB m p.h.tr:=(e0 _).1
  have e2:(subKB m p).h.nx=p.h.nx:=(e0 _).2
  have hf:fullB (subKB m p).h.tr (subKB m p).h.nx=true:=by
    rw [e1,e2]
    exact fullB_of _ _ ((subTB_full m _ _).2 (fullB_spec _ _ h6))
  have hf2:fullB (subKB m p).t (subKB m p).nx=true:=fullB_of _ _ ((subTB_full m _ _).2 (fullB_spec _ _ h5))
  exact KBOK.sub hv h1 h2 h3 h8 h9 (kb_of (p:=subKB m p) hk h4 hf2 hf (by rw [e1,e2];exact h7) h)
end Go.X1

set_option maxRecDepth 100000
namespace Go.X1
variable [Nu]
def DtOK (dt:List (Nat×Nat)):Prop:=∀ i d,(i,d)∈dt→(itB (Nu.val i)).length=d∧Nu.val i≤999
theorem dlook_mem {dt:List (Nat×Nat)}{i:Nat}(h:dlook dt i≠0):(i,dlook dt i)∈dt:=by
  induction dt with
  |nil=>exact absurd rfl h
  |cons p l ih=>
    have e:dlook (p::l) i=@Bool.rec (fun _=>Nat) (dlook l i) p.2 (Nat.beq p.1 i):=rfl
    rw [e]at h ⊢
    cases hq:Nat.beq p.1 i
    · rw [hq]at h;exact .tail _ (ih h)
    · have:p.1=i:=beq hq
      rw [← this];exact .head _
theorem digL_split {i:Nat}{K:A}:∀(d j:Nat) (s:List UInt8),(itB (Nu.val i)).length=d+j→Pcs s (lapp (digL i d j) K)→∃ s2,s=(itB (Nu.val i)).drop j++s2∧Pcs s2 K
  |0,j,s,h,hp=>⟨s,by rw [List.drop_eq_nil_of_le (by omega)];rfl,hp⟩
  |d+1,j,s,h,hp=>by
    have hp:Pcs s (.cn (.ref 8 3 j i) (lapp (digL i d (j+1)) K)):=hp
    generalize hq:A.cn (.ref 8 3 j i) (lapp (digL i d (j+1)) K)=q at hp
    cases hp with
    |@dg b r cs j' i' hv h0 hp=>
      cases hq
      obtain⟨s2,rfl,h2⟩:=digL_split d (j+1) _ (by omega) hp
      have hj:j<(itB (Nu.val i)).length:=by omega
      rw [List.getElem?_eq_getElem hj]at h0
      cases h0
      exact⟨s2,by rw [List.drop_eq_getElem_cons hj];rfl,h2⟩
    |_=>cases hq
theorem exp_pcs {dt:List (Nat×Nat)}(hdt:DtOK dt):∀{l:A} {s:List UInt8},Pcs s (expP dt l)→Pcs s l:=by
  intro l
  induction l with
  |nl=>intro s h;exact h
  |cn x r _ ih=>
    intro s h
    have cn_case:∀{z:A},Pcs s (.cn z (expP dt r))→Pcs s (.cn z r):=fun{z} h=>by
      generalize hq:A.cn z (expP dt r)=q at h
      cases h with
      |nil=>cases hq
      |byt h=>cases hq;exact .byt (ih h)
      |dg hv h0 h=>cases hq;exact .dg hv h0 (ih h)
      |it hv h=>cases hq;exact .it hv (ih h)
      |tx a b h=>cases hq;exact .tx a b (ih h)
    cases x with
    |ref g b o i=>
      have h:Pcs s (@Bool.rec (fun _=>A) (.cn (.ref g b o i) (expP dt r)) (@Bool.rec (fun _=>A) (.cn (.ref g b o i) (expP dt r)) (@Bool.rec (fun _=>A) (.int 0) (@Bool.rec (fun _=>A) (lapp (digL i (dlook dt i) 0) (expP dt r)) (.int 0) (Nat.beq (dlook dt i) 0)) (Nat.beq o 0)) (Nat.beq b 4)) (Nat.beq g 8)):=h
      cases h1:Nat.beq g 8<;>rw [h1]at h
      · exact cn_case h
      cases h2:Nat.beq b 4<;>rw [h2]at h
      · exact cn_case h
      cases h3:Nat.beq o 0<;>rw [h3]at h
      · cases h
      cases h4:Nat.beq (dlook dt i) 0<;>rw [h4]at h
      · rw [show g=8 from beq h1,show b=4 from beq h2,show o=0 from beq h3]
        have hm:=dlook_mem (dt:=dt) (i:=i) (fun q=>by rw [q]at h4;cases h4)
        obtain⟨q1,q2⟩:=hdt _ _ hm
        obtain⟨s2,rfl,h5⟩:=digL_split _ 0 s (by omega) h
        rw [List.drop_zero]
        exact .it q2 (ih h5)
      · cases h
    |_=>exact cn_case h
  |_=>intro s h;cases h
section
variable {P:Program} {W0:World} {k:K} {f:Nat}
theorem text_ans {p:KnownT}{dt:List (Nat×Nat)}(hdt:DtOK dt)(hk:CallOK P W0 k){tok:A}(hx:p.x=.nd 2 tok)(h:isRes (.nd 2 (expP dt tok)) (k f p.a p.h)=true):
    FnOK P f∧∀(α:Al) (w:World) (args:List Value),HR W0 α w p.h→RepL α args p.a→Calls P f ⟨args⟩ w (fun e w'=>∃ u α' h',e=.returned u∧Step W0 α w p.h α' w' h'∧Rep α' u p.x):=by
  obtain⟨t,h',hl⟩:=isRes_lf h (by simp)
  obtain⟨hf,hc⟩:=hk f _ _ _ _ _ hl
  refine⟨hf,fun α w args hr ha=>(hc α w args hr ha).mono ?_⟩
  rintro e w' ⟨u,α',rfl,s1,s2⟩
  obtain⟨s,rfl,hs⟩:=rep_pst s2
  exact⟨_,α',h',rfl,s1,by rw [hx];exact .pst (exp_pcs hdt hs)⟩
theorem ft_of {p:KnownT}(h:(List.range p.m).all (fun i=>flat (tget junk p.t i))=true):∀ i,i<p.m→flat (tget junk p.t i)=true:=fun i hi=>List.all_eq_true.1 h i (List.mem_range.2 hi)
inductive Inp (W:World):Value→List UInt8→Prop
  |nil:Inp W (.slice none 0 0) []
  |zero {a:Addr}:Inp W (.slice (some a) 0 0) []
  |row {b o c:Nat} {bs:List UInt8} {cs:Array Value} {el:TypeId} {fz:Nat×Nat} (hn:bs.length≤c) (hb:W.heap[b]? =some (.cells cs el fz)) (hc:o+c≤cs.size) (hv:∀(i:Nat) (x:UInt8),bs[i]? =some x→cs[o+i]? =some (.int .u8 x.toNat)):Inp W (.slice (some ⟨b,o,none⟩) bs.length c) bs
def atV (bs:List UInt8)(j:Nat):Nat:=if h:j<bs.length then bs[j].toNat else(j * 37+bs.length * 11) % 256
noncomputable def inH (n:Nat) (l:A):H:=.mk (.nd (.cs n 0 (tsets l .lf 0)) .lf .lf) 1 1
theorem in_hr {w:World}{bs:List UInt8}{b o c:Nat}{cs:Array Value}{el:TypeId}{fz:Nat×Nat}(hA:Agree W0 w)(hn:bs.length≤c)(hb:W0.heap[b]? =some (.cells cs el fz))(hc:o+c≤cs.size)(hv:∀(i:Nat)(x:UInt8),bs[i]? =some x→cs[o+i]? =some (.int .u8 x.toNat)):
    HR W0 (fun i=>if i=0 then some ⟨b,o,0,1,c,fz⟩else none) w (inH bs.length (bytesL bs.length (encB bs))):=by
  have hlt:b<W0.heap.size:=(Array.getElem?_eq_some_iff.1 hb).1
  have hw:w.heap[b]? =some (.cells cs el fz):=by rw [hA.heap b hlt];exact hb
  have at0:∀{c':Nat} {M},(if c'=0 then some (⟨b,o,0,1,c,fz⟩:Loc)else none)=some M→c'=0∧M=⟨b,o,0,1,c,fz⟩:=fun{c'} {M} e=>by
    split at e
    · cases e;exact⟨‹_›,rfl⟩
    · cases e
  have hrep:=fun(α:Al)=>repL_bytes (α:=α) bs
  have hl:llen (bytesL bs.length (encB bs))=bs.length:=by
    have:=(hrep (fun _=>none)).len
    rw [List.length_map]at this
    exact this.symm
  obtain⟨f1,f2⟩:=full_sets (bytesL bs.length (encB bs)) .lf 0 0 (hrep (fun _=>none)).isL rfl (Nat.le_refl _)
  rw [hl,Nat.zero_add,Nat.max_eq_right (Nat.zero_le _)]at f1
  refine⟨hA,Nat.le_refl _,⟨by show 0<1;decide,(rfl:1 / 2=0),(rfl:(1-1) / 2=0)⟩,fun c' M e=>?_,fun c' M e=>?_,fun c' d M N e1 e2 _ _ _=>?_⟩
  · obtain⟨rfl,rfl⟩:=at0 e
    exact⟨by show 0<1;decide,.inr (by show 0<1;decide),Nat.lt_of_lt_of_le hlt hA.size⟩
  · obtain⟨rfl,rfl⟩:=at0 e
    refine⟨rfl,Nat.zero_le _,by show _≤0+c;omega,⟨_,f1,Nat.le_refl _⟩,cs,el,hw,hc,fun i _ i2=>?_⟩
    obtain⟨x,hx⟩:∃ x,bs[i]? =some x:=⟨bs[i],List.getElem?_eq_getElem i2⟩
    refine⟨.int .u8 x.toNat,by rw [Nat.sub_zero];exact hv i x hx,rfl,?_⟩
    rw [f2,if_pos ⟨Nat.zero_le _,by rw [hl];omega⟩,Nat.sub_zero]
    exact(hrep _).get i _ (by rw [List.getElem?_map,hx];rfl)
  · obtain⟨rfl,_⟩:=at0 e1
    obtain⟨rfl,_⟩:=at0 e2
    rfl
theorem nth_bytes:∀(bs:List UInt8) (j:Nat) (x:UInt8),bs[j]? =some x→nth (bytesL bs.length (encB bs)) j=.byt x.toNat
  | [],j,x,h=>by simp at h
  |b::r,j,x,h=>by
    have hb:b.toNat<256:=b.toNat_lt
    have e1:encB (b::r) % 256=b.toNat:=by show(b.toNat+encB r * 256) % 256=_;omega
    have e2:encB (b::r) / 256=encB r:=by show(b.toNat+encB r * 256) / 256=_;omega
    rw [List.length_cons,bytesL_S,e1,e2]
    cases j with
    |zero=>rw [nth_cn0];simp at h;rw [h]
    |succ j=>rw [nth_cnS];exact nth_bytes r j x (by simpa using h)
theorem in_back {α':Al}{w w':World}{h h':H}{L:Loc}(hA:Agree W0 w)(hL:L.blk<W0.heap.size)(s:Step W0 (fun i=>if i=0 then some L else none) w h α' w' h'):Agree w w':=by
  refine⟨s.fr.size,fun k hk=>?_,s.fr.os,s.fr.out⟩
  by_cases hq:L.blk=k
  · subst hq
    rw [s.hr.agr.heap _ hL,hA.heap _ hL]
  · exact s.fr.keep k hk fun b0 L0 e0=>by
      have e0:(if b0=0 then some L else none)=some L0:=e0
      split at e0
      · cases e0;exact hq
      · cases e0
theorem fAt_ans {l:List (Nat×A)}(hf:FnOK P f)(hA:∀ j x,(j,x)∈l→∃ m:Nat,(∀ α:Al,Rep α (.int .i64 m) x)∧∀ w:World,Agree W0 w→Calls P f #[Nu.inp,.int .i64 j] w (fun e w'=>e=.returned (.int .i64 m)∧Agree w w')):FnAns P W0 f (fAt l k):=fun a h v r h' hl=>by
  obtain⟨x,t,rfl,ha⟩:=oCn_lf hl
  obtain⟨y,t2,rfl,hb⟩:=oCn_lf ha
  obtain⟨rfl,hc⟩:=oEnd_lf hb
  obtain⟨g,b,o,n,rfl,hd⟩:=oRef_lf hc
  obtain⟨g1,he⟩:=oCk_lf hd
  obtain⟨g2,hg⟩:=oCk_lf he
  obtain⟨j,rfl,hi⟩:=oInt_lf hg
  clear ha hb hc hd he hg hl
  have hl:R.lf (@List.rec (Nat×A) (fun _=>R) .bad (fun p _ ih=>@Bool.rec (fun _=>R) ih (ret1 p.2 h) (Nat.beq (Nat.add 9223372036854775808 p.1) j)) l)=some (1,.cn v r,h'):=hi
  clear hi
  have g1:g=8:=beq g1
  have g2:b=7:=beq g2
  have key:∃ i x,(i,x)∈l∧j=9223372036854775808+i∧v=x∧h'=h:=by
    clear hA
    revert hl
    induction l with
    |nil=>intro hl;exact bad_lf hl
    |cons p l ih=>
      intro hl
      rcases rec_lf hl with ⟨q,hq⟩|⟨_,hq⟩
      · cases hq
        exact⟨p.1,p.2,.head _,(beq q).symm,rfl,rfl⟩
      · obtain⟨i,x,q1,q2⟩:=ih hq
        exact⟨i,x,.tail _ q1,q2⟩
  obtain⟨i,x,q1,q2,rfl,rfl⟩:=key
  obtain⟨m,m1,m2⟩:=hA i v q1
  refine⟨hf,fun α w args hr ha=>?_⟩
  match args,ha with
  | [u1,u2],.cons a1 (.cons a2 .nil)=>
    rw [g1,g2]at a1
    obtain⟨z,z1,z2⟩:=rep_int a2
    have hz:z=(i:Int):=by omega
    subst hz
    have e1:u1=Nu.inp:=by
      cases a1 with |ref a1=>
      generalize hg:8=g at a1
      generalize hb:7=b at a1
      cases a1 with
      |inp h1 h2=>exact h1.symm
      |sl _ hg'=>omega
      |_=>omega
    subst e1;subst z1
    refine(m2 w hr.agr).mono ?_
    rintro e w' ⟨rfl,A⟩
    exact⟨_,α,rfl,step_agree hr A,m1 α⟩
theorem Inp.slice {v:Value}{bs:List UInt8}(h:Inp W0 v bs):∃ ad c,v=.slice ad bs.length c:=by
  cases h with
  |nil=>exact⟨_,_,rfl⟩
  |zero=>exact⟨_,_,rfl⟩
  |row=>exact⟨_,_,rfl⟩
theorem law_in {u:Nat}{bs:List UInt8}(hk:CallOK P W0 k)(hi:Inp W0 Nu.inp bs)(hu:lenK u bs.length)(h:isT (k f (.cn (.ref 8 7 u 0) .nl) (.mk .lf 0 0))=true):FnOK P f∧Calls P f #[Nu.inp] W0 (fun e w'=>e=.returned (.bool true)∧Agree W0 w'):=by
  obtain⟨t,h',hl⟩:=isT_lf h
  obtain⟨h1,h2⟩:=hk f _ _ _ _ _ hl
  obtain⟨ad,c,e⟩:=hi.slice
  refine⟨h1,(h2 _ W0 [Nu.inp] (hr_empty W0) (.cons ?_ .nil)).mono ?_⟩
  · have:Rep (fun _=>none) (.slice ad bs.length c) (.ref 8 7 u 0):=.ref (.inp e hu)
    rw [← e]at this
    exact this
  rintro e w' ⟨u,α',rfl,s,r⟩
  rw [rep_bool r]
  exact⟨rfl,s.hr.agr⟩
end
theorem dt_nil:DtOK []:=fun _ _ h=>by cases h
theorem dt_cons {i d:Nat}{dt:List (Nat×Nat)}(h1:(itB (Nu.val i)).length=d)(h2:Nu.val i≤999)(h:DtOK dt):DtOK ((i,d)::dt):=fun j e hm=>by
  cases hm with
  |head=>exact⟨h1,h2⟩
  |tail _ hm=>exact h j e hm
theorem itB_two {n:Nat}(h:n≤99):(itB n).length=1∨(itB n).length=2:=by
  unfold itB
  split
  · exact .inl rfl
  · rw [if_pos (by omega)];exact .inr rfl
theorem itB_three (n:Nat):(itB n).length=1∨(itB n).length=2∨(itB n).length=3:=by
  unfold itB
  split
  · exact .inl rfl
  · split
    · exact .inr (.inl rfl)
    · exact .inr (.inr rfl)
end Go.X1

set_option maxRecDepth 100000
namespace Go.X1
def w_cell (w:World)(a:Addr)(v:Value):Prop:=w.cell? a=some v
theorem cell_of_block {w w':World}{b:Nat}(h:w'.heap[b]? =w.heap[b]?)(o:Nat):w'.cell? ⟨b,o,none⟩=w.cell? ⟨b,o,none⟩:=by
  unfold World.cell?;simp [h]
def varOK (P:Program)(n:String):Bool:=match (P.globalNamed n).bind fun g=>P.globals[g]? with
  |some G=>P.readableRec G.type&&decide (G.type<P.types.size)
  |none=>false
open Go.ChangeShapes in
theorem post_true {H:Type}{enc:TypeId×Value→H}{P:Program}{f:Func}{s:ChangeSpec}{apart fresh handsOn:Bool}{W W':World}{args:Array Value}{v:Value}{ds gs:List (DataW H)}{before:List MemPlace}{tb:TypeId}
    (hW:DataW.Whole enc P f.params.toList s.vars apart W args.toList ds gs before) (hvars:s.vars.all (varOK P)=true)
    (hl:laidOutB P=true) (hr:f.params.toList.all (fun t=>P.readableRec t&&decide (t<P.types.size))=true)
    (hrt:f.resultTypes=#[tb]) (htb:P.underlying tb=some .bool)
    (hs:s.fn H (ds++gs)={ results:=[.lit (.bool true)],args:=ds,vars:=gs }) (A:Agree W W') (hv:v=.bool true):
    s.post enc P f apart fresh handsOn false W args v W':=by
  subst hv
  obtain⟨p,q,hA,hV,rfl,hfz,hnd⟩:=hW
  have hres:∀(b:Nat) (sp:Nat→Bool) (hd:Bool),DataW.TrodAll enc P W' b sp hd f.resultTypes.toList ((Value.bool true).resultList f.resultTypes.size) [.lit (.bool true)] []:=fun b sp hd=>by
    rw [hrt]
    exact trodAll_mk1 (RowKit.shut_bool htb true)
  have stays:∀{t:TypeId} {v:Value} {d:DataW H} {a:List MemPlace},(P.readableRec t&&decide (t<P.types.size))=true→DataW.Trod enc P W 0 (fun _=>true) true t v d a→DataW.Trod enc P W' 0 (fun b=>decide (b<W.heap.size)) true t v d a:=fun{t v d a} hr h1=>by
    simp only [Bool.and_eq_true,decide_eq_true_eq]at hr
    have hlt:∀ x∈a,x.block<W.heap.size:=fun x hx=>by
      obtain⟨n,hn⟩:=h1
      exact DataW.trod_lt _ _ _ _ hn x hx
    refine WideElems.Trod_stays hl hr.1 hr.2 h1 (fun x hx=>?_) (fun x hx=>by simpa using hlt x hx)
    have:=A.heap x.block (hlt x hx)
    cases x with
    |cell b o=>exact cell_of_block (by simpa [MemPlace.block]using this) o
    |map b=>simpa [MemPlace.block,World.sameAt]using this
  have hargs:∀(ts:List TypeId) (vs:List Value) (ds:List (DataW H)) (p:List MemPlace),ts.all (fun t=>P.readableRec t&&decide (t<P.types.size))=true→DataW.TrodAll enc P W 0 (fun _=>true) true ts vs ds p→
      DataW.TrodAll enc P W' 0 (fun b=>decide (b<W.heap.size)) true ts vs ds p:=by
    intro ts
    induction ts with
    |nil=>
      intro vs ds p _ h
      obtain⟨rfl,rfl,rfl⟩:=trodAll_nil h
      exact rfl
    |cons t ts ih=>
      intro vs ds p hr h
      obtain⟨v,vs1,d,ds1,a,b,rfl,rfl,rfl,h1,h2⟩:=trodAll_cons h
      rw [List.all_cons,Bool.and_eq_true]at hr
      exact⟨a,b,stays hr.1 h1,ih vs1 ds1 b hr.2 h2,rfl⟩
  have hvs:∀(ns:List String) (gs:List (DataW H)) (q:List MemPlace),ns.all (varOK P)=true→DataW.TrodVars enc P W (fun _=>true) ns gs q→DataW.TrodVars enc P W' (fun b=>decide (b<W.heap.size)) ns gs q:=by
    intro ns
    induction ns with
    |nil=>
      intro gs q _ h
      obtain⟨rfl,rfl⟩:=trodVars_none h
      exact rfl
    |cons n ns ih=>
      intro gs q hr h
      cases gs with
      |nil=>simp [DataW.TrodVars]at h
      |cons d gs=>
        obtain⟨g,t,cs,fuel,p1,q1,h1,h2,h3,h4,h5,h6⟩:=h
        rw [List.all_cons,Bool.and_eq_true]at hr
        have hok:(P.readableRec t&&decide (t<P.types.size))=true:=by
          have:=hr.1
          unfold varOK at this
          rw [h1,Option.bind_some]at this
          cases hG:P.globals[g]? with
          |none=>rw [hG]at h2;cases h2
          |some G=>
            rw [hG]at this h2
            cases h2
            exact this
        obtain⟨fuel',h4'⟩:=stays (v:=.agg cs) hok ⟨fuel,h4⟩
        have hlt:g<W.heap.size:=by
          rcases Nat.lt_or_ge g W.heap.size with h|h
          · exact h
          · simp [World.var?,h1,Array.getElem?_eq_none h]at h3
        have h3':W'.var? P n=some cs:=by
          rw [← h3]
          simp only [World.var?,h1,Option.bind_some,A.heap g hlt]
        exact⟨g,t,cs,fuel',p1,q1,h1,h2,h3',h4',ih gs q1 hr.2 h5,h6⟩
  refine⟨ds,gs,p++q,[],p,q,⟨p,q,hA,hV,rfl,hfz,hnd⟩,?_,?_,?_,?_,fun h=>by cases h⟩
  · rw [hs];exact hres _ _ _
  · rw [hs];exact hargs _ _ _ _ hr hA
  · rw [hs];exact hvs _ _ _ hvars hV
  · refine⟨A.os,A.out,fun i hi=>?_⟩
    rw [A.heap i hi]
    split
    · rename_i h1 h2
      rw [h1]at h2
      simp only [Option.some.injEq,Obj.cells.injEq]at h2
      obtain⟨rfl,rfl,rfl⟩:=h2
      exact⟨rfl,rfl,rfl,fun _ _=>rfl⟩
    · rename_i h1 h2
      rw [h1]at h2
      simp only [Option.some.injEq,Obj.map.injEq]at h2
      exact .inr ⟨h2.1.symm,h2.2.symm⟩
    · rfl
theorem choose_bytes {p:Nat→UInt8→Prop}:∀ n:Nat,(∀ i,i<n→∃ x,p i x)→∃ l:List UInt8,l.length=n∧∀ i x,l[i]? =some x→p i x
  |0,_=>⟨[],rfl,fun i x h=>by simp at h⟩
  |n+1,h=>by
    obtain⟨l,h1,h2⟩:=choose_bytes n (fun i hi=>h i (by omega))
    obtain⟨x,hx⟩:=h n (by omega)
    refine⟨l++[x],by simp [h1],fun i y hy=>?_⟩
    rcases Nat.lt_or_ge i n with hi|hi
    · rw [List.getElem?_append_left (by omega)]at hy
      exact h2 i y hy
    · rw [List.getElem?_append_right (by omega)]at hy
      have hlt:=(List.getElem?_eq_some_iff.1 hy).1
      simp at hlt
      have:i=n:=by omega
      subst this
      rw [h1,Nat.sub_self]at hy
      simp at hy
      subst hy
      exact hx
theorem cell_row {w:World}{a:Addr}{v:Value}(h:w.cell? a=some v):a=⟨a.block,a.off,none⟩∧∃ cs el fz,w.heap[a.block]? =some (.cells cs el fz)∧cs[a.off]? =some v:=by
  obtain⟨b,o,s⟩:=a
  unfold World.cell? at h
  split at h
  · rename_i cs el fz hb
    cases s with
    |none=>exact⟨rfl,cs,el,fz,hb,by simpa using h⟩
    |some q=>simp at h
  · simp at h
theorem cells_cell {P:Program}{w:World}{base:Nat}{t:TypeId}{v u:Value}(h:Value.okWide P w .any base t v)(ht:∀ fs,P.underlying t≠some (.struct fs))(ht':∀ n e,P.underlying t≠some (.array n e))(hc:v.cells.toList=[u]):v=u:=by
  cases v<;>simp_all [Value.cells]
  unfold Value.okWide at h
  split at h
  · rename_i fs hu;exact(ht fs hu).elim
  · rename_i n e hu;exact(ht' n e hu).elim
  · unfold Cell.okWide at h
    split at h<;>simp_all [Cell.ok]
theorem cells_one {w:World}{a:Addr}{vs:List Value}(h:w.cells? 0 a 1=some vs):∃ v,vs=[v]∧w.cell? a=some v:=by
  unfold World.cells? at h
  rw [if_pos (Nat.zero_le _)]at h
  simp [List.range_succ]at h
  cases hc:w.cell? a with
  |none=>simp [Addr.add,hc]at h
  |some v=>simp [Addr.add,hc]at h;exact⟨v,h.symm,rfl⟩
theorem inp_of {P:Program}{H:Type}{enc:TypeId×Value→H}{W:World}{base:Nat}{t e:TypeId}{v:Value}{d:DataW H}{ps:List MemPlace}(ht:P.underlying t=some (.slice e))(he:P.underlying e=some (.int .u8))(hs:P.cellsOf e=1)
    (hv:Value.okWide P W .any base t v) (hd:DataW.Trod enc P W 0 (fun _=>true) true t v d ps):∃ bs,Inp W v bs:=by
  obtain⟨fuel,hd⟩:=hd
  have hcell:∀ u,v.cells.toList=[u]→v=u:=fun u hu=>cells_cell hv (fun fs q=>by rw [ht]at q;cases q) (fun n e q=>by rw [ht]at q;cases q) hu
  rcases DataW.trod_slice ht hd with ⟨h1,_⟩|⟨a,len,cap,elems,rest,n,hfu,h1,_,_,hlc,hcm,hlen,hel,hsp,_⟩
  · rw [hcell _ h1]
    exact⟨[],.nil⟩
  · rw [hcell _ h1]
    rw [hs]at hel hsp
    obtain⟨hr1,hr2⟩:=hsp rfl
    have all:∀ i,i<cap→∃ u,w_cell W (a.add (i * 1)) u∧(i<len→∃ x:UInt8,u=.int .u8 x.toNat):=fun i hi=>by
      rcases Nat.lt_or_ge i len with h|h
      · have q1:=hel i h
        rw [List.getElem?_eq_getElem (show i<elems.length by omega),Option.bind_eq_some_iff]at q1
        obtain⟨vs,q2,q3⟩:=q1
        obtain⟨u,rfl,q4⟩:=cells_one q2
        obtain⟨z,q5,_,q6⟩:=DataW.trod_int he q3
        simp only [List.cons.injEq,and_true]at q5
        refine⟨u,q4,fun _=>?_⟩
        simp only [Lit.wf,Bool.and_eq_true,decide_eq_true_eq]at q6
        have q6:(0:Int)≤z∧z≤255:=q6
        refine⟨UInt8.ofNat z.toNat,?_⟩
        rw [q5,UInt8.toNat_ofNat_of_lt' (by show z.toNat<256;omega)]
        congr 1;omega
      · have q1:=hr2 (i-len) (by omega)
        rw [List.getElem?_eq_getElem (show i-len<rest.length by omega),Option.bind_eq_some_iff,show len+(i-len)=i by omega]at q1
        obtain⟨vs,q2,q3⟩:=q1
        obtain⟨u,rfl,q4⟩:=cells_one q2
        exact⟨u,q4,fun h'=>by omega⟩
    rcases Nat.eq_zero_or_pos cap with h0|h0
    · have:len=0:=by omega
      subst this;subst h0
      exact⟨[],.zero⟩
    · obtain⟨u0,c0,_⟩:=all 0 h0
      have hz:a.add (0 * 1)=a:=by simp [Addr.add]
      rw [hz]at c0
      obtain⟨ha,cs,el,fz,hb,hc0⟩:=cell_row c0
      have hadd:∀ i,a.add (i * 1)=⟨a.block,a.off+i,none⟩:=fun i=>by
        have q:a.add (i * 1)=(⟨a.block,a.off,none⟩:Addr).add i:=by rw [Nat.mul_one,← ha]
        rw [q]
        exact @addr_add ⟨0,0,0,.nilIface⟩ _ _ _
      have cell:∀ i,i<cap→∃ u,cs[a.off+i]? =some u∧(i<len→∃ x:UInt8,u=.int .u8 x.toNat):=fun i hi=>by
        obtain⟨u,q1,q2⟩:=all i hi
        rw [hadd]at q1
        obtain⟨_,cs',el',fz',q3,q4⟩:=cell_row q1
        have q3:W.heap[a.block]? =_:=q3
        rw [hb]at q3;cases q3
        exact⟨u,q4,q2⟩
      obtain⟨bs,l1,l2⟩:=choose_bytes (p:=fun i x=>cs[a.off+i]? =some (.int .u8 x.toNat)) len (fun i hi=>by
        obtain⟨u,q1,q2⟩:=cell i (by omega)
        obtain⟨x,rfl⟩:=q2 hi
        exact⟨x,q1⟩)
      refine⟨bs,?_⟩
      rw [ha,← l1]
      refine .row (by omega) hb ?_ l2
      obtain⟨u,q1,_⟩:=cell (cap-1) (by omega)
      have:=(Array.getElem?_eq_some_iff.1 q1).1
      omega
open Go.ChangeAt in
theorem row_of_law {H:Type}{enc:TypeId×Value→H}{C:Checked}{os:Os}{f:FuncId}{fn:Func}{s:ChangeSpec}{X:World→Prop}(hX:∀ w w':World,w.heap=w'.heap→X w→X w')
 (own:ownKnob C.prog.godebug=none) (started:os.Started) (noInit:C.prog.inits.idxOf? f=none) (hfn:C.prog.funcs[f]? =some fn)
 (witness:∃(w:World) (tape:Tape) (i:Input),w.os=os∧(w.forCall tape i).Shaped C.prog∧i.vars=[]∧Input.okWide C.prog (w.forCall tape i) .any w.heap.size f i∧
  ((s.pre enc C.prog fn [] false (w.forCall tape i).memory i.args∧X (w.forCall tape i).memory)∧sizedMet enc C.prog fn (OpenSpec.ofChange s) false (w.forCall tape i).memory i.args)∧Assume.holds {} C.prog (lone (Frame.enter C.prog f i.args .normal) [] (w.forCall tape i)))
 (law:∀(W:World) (base:Nat) (args:Array Value) (ds gs:List (DataW H)) (before:List MemPlace),
  (∀ (j:Nat) t v,fn.params[j]? =some t→args[j]? =some v→Value.okWide C.prog W .any base t v)→DataW.Whole enc C.prog fn.params.toList s.vars false W args.toList ds gs before→X W→W.ShapedOpen C.prog→
  Calls C.prog f args W fun e W'=>∃ v,e=.returned v∧s.post enc C.prog fn false true false false W args v W'):
 ReturnsInHanded {} C os f .any (fun w args=>(s.pre enc C.prog fn [] false w args∧X w)∧sizedMet enc C.prog fn (OpenSpec.ofChange s) false w args) (s.post enc C.prog fn false true false false):=
 returnsInHanded_of_calls own started noInit witness fun w tape i _ hsh _ hok hpre _=>by
  obtain⟨_,_,_,fn2,h2,_,_,_,_,hval⟩:=hok
  obtain rfl:fn2=fn:=Option.some.inj (h2.symm.trans hfn)
  obtain⟨⟨⟨ds,gs,before,hw,_⟩,hx⟩,_⟩:=hpre
  refine(law (w.forCall tape i) w.heap.size i.args ds gs before hval (DataW.Whole.of_heap (w':=w.forCall tape i) (by rfl) hw) (hX _ _ (by rfl) hx) hsh).mono fun e W' ⟨v,he,hp⟩=>?_
  subst he
  exact ChangeSpec.post_blind hp
end Go.X1
