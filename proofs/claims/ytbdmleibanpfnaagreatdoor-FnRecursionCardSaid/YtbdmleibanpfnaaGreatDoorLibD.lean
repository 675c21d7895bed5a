/-
  Slots and the function's own variables: what a machine's frame and an environment have in common.
-/
import Derived.Test.YtbdmleibanpfnaaGreatDoorLibC
import Derived.Tactics
import Derived.Orders
set_option linter.all false
set_option maxRecDepth 100000
namespace Go.X1
variable [Nu]
abbrev Be:=Nat→Option Nat
def SR (α:Al)(β:Be)(a:Act)(t:Nat):S→Prop
  |.v x=>Rep α (a.tmps.getD t undef) x
  |.p b o=>∃ k,β b=some k∧a.tmps.getD t undef=.pointer (some ⟨k,o,none⟩)
  |.pg g w b o=>∃ k,β b=some k∧(a.tmps.getD g undef=.bool w→a.tmps.getD t undef=.pointer (some ⟨k,o,none⟩))
inductive Lc where
  |s (t:Nat)
  |b (n:Nat)
def Row (α:Al)(w:World)(k n:Nat)(f:Nat→A):Prop:=∃ cs el,w.heap[k]? =some (.cells cs el (0,0))∧n≤cs.size∧∀ i,i<n→∃ v,cs[i]? =some v∧v.oneCell'=true∧Rep α v (f i)
structure SV (n0 nt:Nat) (V:Lc→E) (α:Al) (β:Be) (w:World) (a:Act):Prop where
  defers:a.defers=[]
  size:nt≤a.tmps.size
  slot:∀ t,SR α β a t (eget (V (.s t)).tm t)
  base:∀ b n,bget (V (.b b)).pb b=some n→∃ k,β b=some k∧Row α w k n (cget (V (.b b)).cl b)
  own:∀ b k,β b=some k→n0≤k∧k<w.heap.size∧∀ i L,α i=some L→L.blk≠k
  inj:∀ b b' k,β b=some k→β b'=some k→b=b'
structure Grow (α:Al) (w:World) (α':Al) (w':World):Prop where
  le:Le α α'
  new:∀ b L,α' b=some L→α b=some L∨w.heap.size≤L.blk∨∃ b0 L0,α b0=some L0∧L0.blk=L.blk
  fr:Fr α w w'
theorem Grow.refl (α:Al)(w:World):Grow α w α w:=⟨.refl α,fun _ _ e=>.inl e,.refl α w⟩
section
variable {P:Program} {W0:World} {n0 nt:Nat} {V:Lc→E} {α α':Al} {β:Be} {w w':World} {a:Act}
theorem Step.grow {h h':H}(s:Step W0 α w h α' w' h'):Grow α w α' w':=
  ⟨s.ext.le,fun b L e=>(s.ext.new b L e).imp id fun h=>h.2.2,s.fr⟩
theorem Row.mono (hl:Le α α'){k n:Nat}{f:Nat→A}(hw:w'.heap[k]? =w.heap[k]?)(h:Row α w k n f):Row α' w' k n f:=by
  obtain⟨cs,el,h1,h2,h3⟩:=h
  exact⟨cs,el,by rw [hw];exact h1,h2,fun i hi=>let ⟨v,q1,q2,q3⟩:=h3 i hi;⟨v,q1,q2,q3.mono hl⟩⟩
theorem SR.mono (hl:Le α α'){t:Nat}{s:S}(h:SR α β a t s):SR α' β a t s:=by
  cases s with
  |v x=>exact Rep.mono hl h
  |p b o=>exact h
  |pg g w b o=>exact h
theorem SV.grow (hs:SV n0 nt V α β w a)(g:Grow α w α' w'):SV n0 nt V α' β w' a where
  defers:=hs.defers
  size:=hs.size
  slot t:=(hs.slot t).mono g.le
  base b n hb:=by
    obtain⟨k,h1,h2⟩:=hs.base b n hb
    obtain⟨_,o2,o3⟩:=hs.own b k h1
    exact⟨k,h1,h2.mono g.le (g.fr.keep k o2 fun i L e=>o3 i L e)⟩
  own b k hb:=by
    obtain⟨o1,o2,o3⟩:=hs.own b k hb
    refine⟨o1,Nat.lt_of_lt_of_le o2 g.fr.size,fun i L e=>?_⟩
    rcases g.new i L e with h|h|⟨b0,L0,h1,h2⟩
    · exact o3 i L h
    · omega
    · rw [← h2];exact o3 b0 L0 h1
  inj:=hs.inj
def upd (V:Lc→E)(d:Option Nat)(b:Option Nat)(e:E):Lc→E
  |.s t=>if d=some t then e else V (.s t)
  |.b n=>if b=some n then e else V (.b n)
theorem put_getD {d t:Nat}{v:Value}(hd:d<a.tmps.size):(a.put (some d) v).tmps.getD t undef=if d=t then v else a.tmps.getD t undef:=by
  simp only [Act.put,Array.getD_eq_getD_getElem?]
  by_cases h:d=t
  · subst h
    rw [if_pos rfl,Array.getElem?_setIfInBounds_self_of_lt hd]
    rfl
  · rw [if_neg h,Array.getElem?_setIfInBounds_ne h]
theorem SV.put (hs:SV n0 nt V α β w a){d:Option Nat}{v:Value}{env':E}(hd:∀ t,d=some t→t<nt)
    (hpg:∀ t g u b o,eget (V (.s t)).tm t=.pg g u b o→d≠some g) (hv:∀ t,d=some t→SR α β (a.put d v) t (eget env'.tm t)):SV n0 nt (upd V d none env') α β w (a.put d v) where
  defers:=by cases d<;>exact hs.defers
  size:=by
    cases d with
    |none=>exact hs.size
    |some d=>simp [Act.put,hs.size]
  slot t:=by
    show SR α β (a.put d v) t (eget (upd V d none env' (.s t)).tm t)
    by_cases h:d=some t
    · rw [show upd V d none env' (.s t)=env' from if_pos h]
      exact hv t h
    · rw [show upd V d none env' (.s t)=V (.s t)from if_neg h]
      have hst:=hs.slot t
      cases d with
      |none=>exact hst
      |some d=>
        have hdt:d≠t:=fun e=>h (by rw [e])
        have hsz:d<a.tmps.size:=Nat.lt_of_lt_of_le (hd d rfl) hs.size
        cases hq:eget (V (.s t)).tm t with
        |v x=>
          rw [hq]at hst
          show Rep α ((a.put (some d) v).tmps.getD t undef) x
          rw [put_getD hsz,if_neg hdt];exact hst
        |p b o=>
          rw [hq]at hst
          obtain⟨k,q1,q2⟩:=hst
          exact⟨k,q1,by rw [put_getD hsz,if_neg hdt];exact q2⟩
        |pg g u b o=>
          rw [hq]at hst
          obtain⟨k,q1,q2⟩:=hst
          have hdg:d≠g:=fun e=>hpg t g u b o hq (by rw [e])
          exact⟨k,q1,fun e=>by rw [put_getD hsz,if_neg hdt];rw [put_getD hsz,if_neg hdg]at e;exact q2 e⟩
  base b n hb:=hs.base b n hb
  own:=hs.own
  inj:=hs.inj
theorem HR.other (hr:∀ k,(∃ b L,α b=some L∧L.blk=k)→w'.heap[k]? =w.heap[k]?)(ha:Agree W0 w')(hsz:w.heap.size≤w'.heap.size){h:H}(hh:HR W0 α w h):HR W0 α w' h:=
  ⟨ha,hh.ro,hh.full,fun b L e=>let ⟨q1,q2,q3⟩:=hh.dom b L e;⟨q1,q2,Nat.lt_of_lt_of_le q3 hsz⟩,fun b L e=>(hh.blk b L e).world (hr L.blk ⟨b,L,e,rfl⟩),hh.dis⟩
theorem HR.alloc {h:H}(hh:HR W0 α w h)(o:Obj):HR W0 α (w.alloc o) h:=
  HR.other (w':=w.alloc o) (fun k ⟨b,L,e,hk⟩=>by
    have:=(hh.dom b L e).2.2
    exact(agree_alloc w o).heap k (by omega)) (hh.agr.trans (agree_alloc w o)) (agree_alloc w o).size hh
theorem grow_alloc (α:Al)(w:World)(o:Obj):Grow α w α (w.alloc o):=⟨.refl α,fun _ _ e=>.inl e,⟨(agree_alloc w o).size,fun k hk _=>(agree_alloc w o).heap k hk,rfl,rfl⟩⟩
theorem HR.setRow {h:H}(hh:HR W0 α w h){k:Nat}(cs:Array Value)(hk:W0.heap.size≤k)(hn:∀ i L,α i=some L→L.blk≠k):HR W0 α (w.setRow k cs) h:=
  HR.other (w':=w.setRow k cs) (fun c ⟨b,L,e,hc⟩=>setRow_other w k c cs (by rw [← hc];exact hn b L e))
    ⟨by rw [setRow_size];exact hh.agr.size,fun b hb=>by rw [setRow_other w k b cs (by omega)];exact hh.agr.heap b hb,hh.agr.os,hh.agr.out⟩ (by rw [setRow_size];exact Nat.le_refl _) hh
theorem nth_lA:∀(l:List A) (i:Nat),nth (lA l) i=l[i]?.getD junk
  | [],_=>rfl
  |x::l,0=>rfl
  |x::l,i+1=>by rw [lA,nth_cnS,nth_lA l i];rfl
theorem SV.store (hs:SV n0 nt V α β w a){b k n q:Nat}{vs:List Value}{l:List A}{env':E}{cs:Array Value}{el:TypeId}(hb:bget (V (.b b)).pb b=some n)(hk:β b=some k)
    (hc:w.heap[k]? =some (.cells cs el (0,0))) (hrep:RepL α vs (lA l)) (hlen:vs.length=l.length) (hone:∀ v∈vs,v.oneCell'=true) (hq:q+vs.length≤n)
    (he1:bget env'.pb b=some n) (he2:∀ i,cget env'.cl b i=if q≤i∧i<q+l.length then l[i-q]?.getD junk else cget (V (.b b)).cl b i):
    SV n0 nt (upd V none (some b) env') α β (w.setRow k (cs.toList.take q++vs++cs.toList.drop (q+vs.length)).toArray) a:=by
  obtain⟨k',hk',cs',el',g1,g2,g3⟩:=hs.base b n hb
  rw [hk]at hk'
  cases hk'
  rw [hc]at g1
  cases g1
  obtain⟨o1,o2,o3⟩:=hs.own b k hk
  have hh:=setRow_heap w k cs (cs.toList.take q++vs++cs.toList.drop (q+vs.length)).toArray el (0,0) hc
  refine⟨hs.defers,hs.size,hs.slot,fun b' n' hb'=>?_,fun b' k' hb'=>?_,hs.inj⟩
  · by_cases hbb:b=b'
    · subst hbb
      rw [show upd V none (some b) env' (.b b)=env' from if_pos rfl]at hb' ⊢
      rw [he1]at hb'
      cases hb'
      refine⟨k,hk,_,el,hh,by simp;omega,fun i hi=>?_⟩
      have hsp:=splice_get cs.toList vs q (by simp;omega) i
      have hsp':(cs.toList.take q++vs++cs.toList.drop (q+vs.length)).toArray[i]? =(cs.toList.take q++vs++cs.toList.drop (q+vs.length))[i]? :=by simp
      rw [hsp',hsp,he2 i]
      by_cases hi2:q≤i∧i<q+l.length
      · rw [if_pos hi2,if_pos (by omega)]
        have hlt:i-q<vs.length:=by omega
        have hlt2:i-q<l.length:=by omega
        refine⟨vs[i-q],List.getElem?_eq_getElem hlt,hone _ (List.getElem_mem hlt),?_⟩
        have:=hrep.get _ _ (List.getElem?_eq_getElem hlt)
        rw [nth_lA]at this
        exact this
      · rw [if_neg hi2,if_neg (by omega)]
        obtain⟨v,q1,q2,q3⟩:=g3 i hi
        exact⟨v,by simpa using q1,q2,q3⟩
    · have e:upd V none (some b) env' (.b b')=V (.b b'):=if_neg fun e=>hbb (by cases e;rfl)
      rw [e]at hb' ⊢
      obtain⟨k',q1,q2⟩:=hs.base b' n' hb'
      refine⟨k',q1,q2.mono (.refl α) (setRow_other w k k' _ fun e=>hbb ?_)⟩
      subst e
      exact hs.inj b b' _ hk q1
  · obtain⟨p1,p2,p3⟩:=hs.own b' k' hb'
    exact⟨p1,by rw [setRow_size];exact p2,p3⟩
theorem SV.mk' (hs:SV n0 nt V α β w a)(hw:n0≤w.heap.size)(hdom:∀ i L,α i=some L→L.blk<w.heap.size){d:Nat}{vs:List Value}{l:List A}{env':E}{el:TypeId}(hd:d<nt)(hβ:β d=none)
    (hrep:∀ i,i<l.length→∃ v,vs[i]? =some v∧v.oneCell'=true∧Rep α v (l[i]?.getD junk)) (hlen:l.length≤vs.length)
    (hpg:∀ t g u b o,eget (V (.s t)).tm t=.pg g u b o→g≠d)
    (he0:eget env'.tm d=.p d 0) (he1:bget env'.pb d=some l.length) (he2:∀ i,i<l.length→cget env'.cl d i=l[i]?.getD junk):
    SV n0 nt (upd V (some d) (some d) env') α (fun b=>if b=d then some w.heap.size else β b) (w.alloc (.cells ⟨vs⟩ el (0,0))) (a.put (some d) (.pointer (some ⟨w.heap.size,0,none⟩))):=by
  have hsz:d<a.tmps.size:=Nat.lt_of_lt_of_le (hd) hs.size
  have hβ':∀ b k,β b=some k→(fun b=>if b=d then some w.heap.size else β b) b=some k:=fun b k e=>by
    show(if b=d then _ else β b)=_
    rw [if_neg (fun q=>by subst q;rw [hβ]at e;cases e)];exact e
  have hA:=agree_alloc w (.cells ⟨vs⟩ el (0,0))
  refine⟨hs.defers,by simp [Act.put,hs.size],fun t=>?_,fun b n hb=>?_,fun b k hb=>?_,fun b b' k h1 h2=>?_⟩
  · by_cases h:d=t
    · subst h
      rw [show upd V (some d) (some d) env' (.s d)=env' from if_pos rfl,he0]
      exact⟨w.heap.size,if_pos rfl,by rw [put_getD hsz,if_pos rfl]⟩
    · rw [show upd V (some d) (some d) env' (.s t)=V (.s t)from if_neg fun e=>h (by cases e;rfl)]
      have hst:=hs.slot t
      cases hq:eget (V (.s t)).tm t with
      |v x=>
        rw [hq]at hst
        show Rep α ((a.put (some d) _).tmps.getD t undef) x
        rw [put_getD hsz,if_neg h];exact hst
      |p b o=>
        rw [hq]at hst
        obtain⟨k,q1,q2⟩:=hst
        exact⟨k,hβ' b k q1,by rw [put_getD hsz,if_neg h];exact q2⟩
      |pg g u b o=>
        rw [hq]at hst
        obtain⟨k,q1,q2⟩:=hst
        have hdg:d≠g:=fun e=>hpg t g u b o hq e.symm
        exact⟨k,hβ' b k q1,fun e=>by rw [put_getD hsz,if_neg h];rw [put_getD hsz,if_neg hdg]at e;exact q2 e⟩
  · by_cases h:d=b
    · subst h
      rw [show upd V (some d) (some d) env' (.b d)=env' from if_pos rfl]at hb ⊢
      rw [he1]at hb
      cases hb
      refine⟨w.heap.size,if_pos rfl,_,el,alloc_heap w _,by simpa using hlen,fun i hi=>?_⟩
      obtain⟨v,q1,q2,q3⟩:=hrep i hi
      exact⟨v,by simpa using q1,q2,by rw [he2 i hi];exact q3⟩
    · have e:upd V (some d) (some d) env' (.b b)=V (.b b):=if_neg fun e=>h (by cases e;rfl)
      rw [e]at hb ⊢
      obtain⟨k,q1,q2⟩:=hs.base b n hb
      exact⟨k,hβ' b k q1,q2.mono (.refl α) (hA.heap k (hs.own b k q1).2.1)⟩
  · rw [alloc_size]
    by_cases h:b=d
    · have:some w.heap.size=some k:=by rw [← hb];exact(if_pos h).symm
      cases this
      exact⟨hw,by omega,fun i L e=>by have:=hdom i L e;omega⟩
    · have hb:β b=some k:=by rw [← hb];exact(if_neg h).symm
      obtain⟨p1,p2,p3⟩:=hs.own b k hb
      exact⟨p1,by omega,p3⟩
  · by_cases e1:b=d<;>by_cases e2:b'=d
    · rw [e1,e2]
    · have h1:some w.heap.size=some k:=by rw [← h1];exact(if_pos e1).symm
      have h2:β b'=some k:=by rw [← h2];exact(if_neg e2).symm
      cases h1
      have:=(hs.own b' _ h2).2.1
      omega
    · have h1:β b=some k:=by rw [← h1];exact(if_neg e1).symm
      have h2:some w.heap.size=some k:=by rw [← h2];exact(if_pos e2).symm
      cases h2
      have:=(hs.own b _ h1).2.1
      omega
    · have h1:β b=some k:=by rw [← h1];exact(if_neg e1).symm
      have h2:β b'=some k:=by rw [← h2];exact(if_neg e2).symm
      exact hs.inj b b' k h1 h2
theorem Step.alloc {α0:Al}{w0:World}{h0 h:H}(s:Step W0 α0 w0 h0 α w h)(o:Obj):Step W0 α0 w0 h0 α (w.alloc o) h:=
  s.trans ⟨s.hr.alloc o,.refl _ _ _,(grow_alloc α w o).fr,.refl _,fun _ _ _=>rfl⟩
theorem Step.setRow {α0:Al}{w0:World}{h0 h:H}(s:Step W0 α0 w0 h0 α w h)(hW:W0.heap.size≤w0.heap.size){k:Nat}(cs:Array Value)(hk:w0.heap.size≤k)(hn:∀ i L,α i=some L→L.blk≠k):Step W0 α0 w0 h0 α (w.setRow k cs) h:=
  ⟨s.hr.setRow cs (by omega) hn,s.ext,⟨by rw [setRow_size];exact s.fr.size,fun c hc hc2=>(setRow_other w k c cs (by omega)).trans (s.fr.keep c hc hc2),s.fr.os,s.fr.out⟩,s.ro,s.un⟩
end
end Go.X1

set_option maxRecDepth 100000
namespace Go.X1
variable [Nu]
def GE (gu:Option (Nat×Bool))(env:E):Prop:=∀ g w,gu=some (g,w)→sval (eget env.tm g)=.bool w
def GN (gu:Option (Nat×Bool))(env:E):Prop:=∃ g w,gu=some (g,w)∧(sval (eget env.tm g)=.bool (!w)∨sval (eget env.tm g)=und)
def GV (gu:Option (Nat×Bool))(a:Act):Prop:=∀ g w,gu=some (g,w)→a.tmps.getD g undef=.bool w
def OpStep (P:Program)(gu:Option (Nat×Bool))(o:Oper)(a:Act)(w:World)(N:Act→World→Prop)(Q:Exit→Act→World→Prop):Prop:=
  (GV gu a→Oper.wp P o a w N Q)∧(¬ GV gu a→N (a.put o.dst undef) w)
def looks (gu:Option (Nat×Bool))(o:Oper):List Nat:=opSlots o.op++match gu with |some (g,_)=>[g]|none=>[]
def LA (V:Lc→E)(env:E)(ts:List Nat):Prop:=∀ t∈ts,eget (V (.s t)).tm t=eget env.tm t
def BA (V:Lc→E)(env:E)(b:Nat):Prop:=bget (V (.b b)).pb b=bget env.pb b∧∀ i,cget (V (.b b)).cl b i=cget env.cl b i
def wrB:Ac→Option Nat
  |.wr b=>some b
  |_=>none
def Pf (P:Program)(W0:World)(n0 nt:Nat)(gu:Option (Nat×Bool))(o:Oper)(env env':E)(ac:Ac):Prop:=
  ∀(V:Lc→E) (α:Al) (β:Be) (w:World) (a:Act) (h:H),SV n0 nt V α β w a→n0≤w.heap.size→HR W0 α w h→LA V env (looks gu o)→(∀ b,ac=.rd b→BA V env b)→(∀ b,ac=.wr b→o.dst=none→BA V env b)→
    (∀ t,o.dst=some t→t<nt)→(∀ g u,gu=some (g,u)→o.dst≠some g)→(∀ d,o.dst=some d→ac=.wr d→β d=none)→(∀ t g u b q,eget (V (.s t)).tm t=.pg g u b q→o.dst≠some g)→
    ∀(N:Act→World→Prop) (Q:Exit→Act→World→Prop),(∀ β' w' a',(∀ α0 w0 h0 h,W0.heap.size≤w0.heap.size→w0.heap.size≤n0→Step W0 α0 w0 h0 α w h→Step W0 α0 w0 h0 α w' h)→(∀ b k,β b=some k→β' b=some k)→(∀ b,β b=none→β' b≠none→o.dst=some b∧ac=.wr b)→SV n0 nt (upd V o.dst (wrB ac) env') α β' w' a'→N a' w')→OpStep P gu o a w N Q
structure Ch (pv:List Nat) (gu:Option (Nat×Bool)) (o:Oper) (env env':E) (ac:Ac):Prop where
  slot:∀ t,o.dst≠some t→eget env'.tm t=eget env.tm t
  base:∀ b,ac≠ .wr b→bget env'.pb b=bget env.pb b∧∀ i,cget env'.cl b i=cget env.cl b i
  pg:∀ t g u b q,eget env'.tm t=.pg g u b q→eget env.tm t=.pg g u b q∨gu=some (g,u)
  fre:∀ d,o.dst=some d→ac=.wr d→hasN pv d=true∧fresh env d=true
  wr:∀ b,ac=.wr b→o.dst=none∨o.dst=some b
section
variable {P:Program} {TT:List TI} {W0:World} {n0 nt:Nat} {V:Lc→E} {α:Al} {β:Be} {w:World} {a:Act} {env env':E} {gu:Option (Nat×Bool)} {o:Oper} {lf:Nat×A×H} {h:H} {k:K}
theorem eget_put (env:E)(d:Option Nat)(s:S)(t:Nat):eget (put env d s).tm t=if d=some t then s else eget env.tm t:=by
  cases d with
  |none=>rw [if_neg (by simp)];rfl
  |some d=>
    show(bif Nat.beq t d then s else eget env.tm t)=_
    rw [nat_beq]
    by_cases e:t=d
    · subst e;simp
    · rw [if_neg (fun q=>e (by cases q;rfl))];simp [e]
theorem put_cl (env:E)(d:Option Nat)(s:S):(put env d s).cl=env.cl:=by cases d<;>rfl
theorem put_pb (env:E)(d:Option Nat)(s:S):(put env d s).pb=env.pb:=by cases d<;>rfl
theorem ch_put {pv:List Nat}{s:S}{ac:Ac}(hs:∀ g u b q,s=.pg g u b q→gu=some (g,u))(hac:∀ b,ac≠ .wr b):Ch pv gu o env (put env o.dst s) ac where
  slot t ht:=by rw [eget_put,if_neg ht]
  base b _:=⟨by rw [put_pb],fun i=>by rw [put_cl]⟩
  pg t g u b q e:=by
    rw [eget_put]at e
    by_cases ht:o.dst=some t
    · rw [if_pos ht]at e;exact .inr (hs g u b q e)
    · rw [if_neg ht]at e;exact .inl e
  fre d _ e:=absurd e (hac d)
  wr b e:=absurd e (hac b)
theorem sval_v {s:S}{x:A}(h:sval s=x)(hx:x≠ .nl):s=.v x:=by
  cases s with
  |v y=>exact congrArg S.v h
  |p b o=>exact absurd h.symm hx
  |pg g u b o=>exact absurd h.symm hx
theorem ge_gv (hs:SV n0 nt V α β w a)(hla:LA V env (looks gu o))(h:GE gu env):GV gu a:=fun g u e=>by
  subst e
  have h1:=hs.slot g
  rw [hla g (by simp [looks]),sval_v (h g u rfl) (by simp)]at h1
  exact rep_bool h1
theorem gn_gv (hs:SV n0 nt V α β w a)(hla:LA V env (looks gu o))(h:GN gu env):¬ GV gu a:=fun hv=>by
  obtain⟨g,u,rfl,h⟩:=h
  have h1:=hs.slot g
  have hg:=hv g u rfl
  rw [hla g (by simp [looks])]at h1
  rcases h with h|h
  · rw [sval_v h (by simp)]at h1
    have h1:=rep_bool h1
    rw [hg]at h1
    cases u<;>cases h1
  · rw [sval_v h (by simp [und])]at h1
    have h1:Rep α (a.tmps.getD g undef) (.nd 1 .nl):=h1
    rw [hg]at h1
    cases h1
theorem gsel_eq (g:A)(u:Bool)(v:A):gsel g u v=v∧g=.bool u∨gsel g u v=und∧(g=.bool (!u)∨g=und)∨gsel g u v=.nl:=by
  cases g with
  |bool t=>cases t<;>cases u<;>simp [gsel,eqb]
  | nd t l => 
    cases l with
    |nl=>
      have key:gsel (.nd t .nl) u v=@Bool.rec (fun _=>A) junk und (Nat.beq t 1):=rfl
      cases hb:Nat.beq t 1
      · rw [hb]at key;exact .inr (.inr key)
      · rw [hb]at key
        have ht:t=1:=beq hb
        subst ht
        exact .inr (.inl ⟨key,.inr rfl⟩)
    |_=>exact .inr (.inr rfl)
  |_=>exact .inr (.inr rfl)
theorem op_rep (hs:SV n0 nt V α β w a)(hla:LA V env (looks gu o)){y:Operand}(hy:y∈o.op.operands):Rep α (a.eval y) (val env y):=by
  cases y with
  |tmp t=>
    have h1:=hs.slot t
    rw [hla t (by simp only [looks,opSlots,List.mem_append,List.mem_filterMap];exact .inl ⟨.tmp t,by simpa using hy,rfl⟩)]at h1
    show Rep α (a.tmps.getD t undef) (sval (eget env.tm t))
    cases hq:eget env.tm t with
    |v x=>rw [hq]at h1;exact h1
    |_=>exact .unk _
  |const v=>exact rep_cv α v
  |func f=>exact .fn rfl .nil
  |global g=>exact .unk _
theorem ptr_rep (hs:SV n0 nt V α β w a)(hla:LA V env (looks gu o)){x:Operand}(hx:x∈o.op.operands){b q:Nat}(hp:ptrOf env gu x=some (b,q)):
    ∃ k,β b=some k∧(GV gu a→a.eval x=.pointer (some ⟨k,q,none⟩)):=by
  cases x with
  |tmp t=>
    have h1:=hs.slot t
    rw [hla t (by simp only [looks,opSlots,List.mem_append,List.mem_filterMap];exact .inl ⟨.tmp t,by simpa using hx,rfl⟩)]at h1
    simp only [ptrOf]at hp
    cases hq:eget env.tm t with
    |v x=>rw [hq]at hp;cases hp
    |p b' o'=>
      rw [hq]at hp h1
      cases hp
      obtain⟨k,q1,q2⟩:=h1
      exact⟨k,q1,fun _=>q2⟩
    |pg g u b' o'=>
      rw [hq]at hp h1
      obtain⟨k,q1,q2⟩:=h1
      cases gu with
      |none=>cases hp
      |some gu=>
        obtain⟨g',u'⟩:=gu
        simp only [nat_beq,Bool.cond_eq_ite]at hp
        split at hp
        · rename_i hc
          simp at hc
          obtain⟨c1,c2⟩:=hc
          subst c1
          subst c2
          cases hp
          exact⟨k,q1,fun hv=>q2 (hv _ _ rfl)⟩
        · cases hp
  |_=>cases hp
theorem value_wp {v:Value}{N:Act→World→Prop}{Q:Exit→Act→World→Prop}{w':World}(hr:(execOp a.eval o).run P w=.ok (.value v) w')(hn:N (a.put o.dst v) w'):Oper.wp P o a w N Q:=by
  unfold Oper.wp
  rw [hr,Oper.upon_value]
  exact hn
theorem skip_wp {N:Act→World→Prop}{Q:Exit→Act→World→Prop}{w':World}(hr:(execOp a.eval o).run P w=.ok .skip w')(hn:N (a.put o.dst undef) w'):Oper.wp P o a w N Q:=by
  unfold Oper.wp
  rw [hr,Oper.upon_skip]
  exact hn
theorem pf_val {ac:Ac}(hac:wrB ac=none)
    (hrun:∀ V α β w a h,SV n0 nt V α β w a→HR W0 α w h→LA V env (looks gu o)→(∀ b,ac=.rd b→BA V env b)→GV gu a→∃ v,(execOp a.eval o).run P w=.ok (.value v) w∧∀ t,o.dst=some t→(∀ g u,gu=some (g,u)→t≠g)→t<a.tmps.size→SR α β (a.put o.dst v) t (eget env'.tm t))
    (hno:∀ V α β w a h,SV n0 nt V α β w a→HR W0 α w h→LA V env (looks gu o)→¬ GV gu a→∀ t,o.dst=some t→(∀ g u,gu=some (g,u)→t≠g)→t<a.tmps.size→SR α β (a.put o.dst undef) t (eget env'.tm t)):Pf P W0 n0 nt gu o env env' ac:=by
  intro V α β w a h hs _ hr hla hba _ hd hgd _ hpg N Q hn
  have hsz:∀ t,o.dst=some t→t<a.tmps.size:=fun t e=>Nat.lt_of_lt_of_le (hd t e) hs.size
  have hgd':∀ t,o.dst=some t→∀ g u,gu=some (g,u)→t≠g:=fun t e g u e2 e3=>hgd g u e2 (by rw [e,e3])
  have hpg':∀ t g u b q,eget (V (.s t)).tm t=.pg g u b q→o.dst≠some g:=hpg
  rw [hac]at hn
  refine⟨fun hv=>?_,fun hv=>?_⟩
  · obtain⟨v,q1,q2⟩:=hrun V α β w a h hs hr hla hba hv
    exact value_wp q1 (hn β w _ (fun _ _ _ _ _ _ s=>s) (fun _ _ e=>e) (fun b e1 e2=>absurd e1 e2) (hs.put hd hpg' fun t e=>q2 t e (hgd' t e) (hsz t e)))
  · exact hn β w _ (fun _ _ _ _ _ _ s=>s) (fun _ _ e=>e) (fun b e1 e2=>absurd e1 e2) (hs.put hd hpg' fun t e=>hno V α β w a h hs hr hla hv t e (hgd' t e) (hsz t e))
theorem put_self {d:Option Nat}{t:Nat}{v:Value}(e:d=some t)(ht:t<a.tmps.size):(a.put d v).tmps.getD t undef=v:=by
  subst e;rw [put_getD ht,if_pos rfl]
theorem put_other {d:Option Nat}{t g:Nat}{v:Value}(e:d=some t)(ht:t<a.tmps.size)(hg:t≠g):(a.put d v).tmps.getD g undef=a.tmps.getD g undef:=by
  subst e;rw [put_getD ht,if_neg hg]
theorem pf_skip {ac:Ac}(hac:wrB ac=none)(hg:GN gu env):Pf P W0 n0 nt gu o env (put env o.dst (.v und)) ac:=
  pf_val hac (fun V α β w a h hs _ hla _ hv=>absurd hv (gn_gv hs hla hg)) fun V α β w a h hs _ hla _ t e _ ht=>by
    rw [eget_put,if_pos e]
    show Rep α _ und
    rw [put_self e ht];exact .tup .nil
theorem putV_rep {x:A}{t:Nat}{v:Value}(hs:SV n0 nt V α β w a)(hla:LA V env (looks gu o))(e:o.dst=some t)(ht:t<a.tmps.size)(h1:GV gu a→Rep α v x)(h2:¬ GV gu a→v=undef):SR α β (a.put o.dst v) t (eget (putV gu o.dst env x).tm t):=by
  cases gu with
  |none=>
    rw [show putV none o.dst env x=put env o.dst (.v x)from rfl,eget_put,if_pos e]
    show Rep α _ x
    rw [put_self e ht];exact h1 fun _ _ e=>by cases e
  |some gu=>
    obtain⟨g,u⟩:=gu
    rw [show putV (some (g,u)) o.dst env x=put env o.dst (.v (gsel (sval (eget env.tm g)) u x))from rfl,eget_put,if_pos e]
    show Rep α _ (gsel _ u x)
    rw [put_self e ht]
    rcases gsel_eq (sval (eget env.tm g)) u x with ⟨q1,q2⟩|⟨q1,q2⟩|q1
    · rw [q1];exact h1 (ge_gv hs hla fun g' u' e=>by cases e;exact q2)
    · rw [q1,h2 (gn_gv hs hla ⟨g,u,rfl,q2⟩)];exact .tup .nil
    · rw [q1];exact .unk _
theorem pf_mov {x:Operand}(ho:o.op=.move x∨o.op=.assign x):Pf P W0 n0 nt gu o env (putV gu o.dst env (val env x)) .no:=
  pf_val rfl (fun V α β w a h hs _ hla _ hv=>⟨a.eval x,by
      obtain⟨d,op,ty,pos,af,g⟩:=o
      rcases ho with ho|ho<;>(have ho:op=_:=ho;subst ho;rfl),fun t e _ ht=>putV_rep hs hla e ht (fun _=>op_rep hs hla (by rcases ho with ho|ho<;>rw [ho]<;>simp [Op.operands])) fun h=>absurd hv h⟩)
    fun V α β w a h hs _ hla hv t e _ ht=>putV_rep hs hla e ht (fun h=>absurd h hv) fun _=>rfl
theorem pf_ptr {x:Operand}{b q f:Nat}(hx:x∈o.op.operands)(hp:ptrOf env gu x=some (b,q))
    (hop:∀(k:Nat) (a:Act) (w:World),a.eval x=.pointer (some ⟨k,q,none⟩)→(execOp a.eval o).run P w=.ok (.value (.pointer (some ⟨k,f,none⟩))) w):Pf P W0 n0 nt gu o env (putP gu o.dst env b f) .no:=by
  refine pf_val rfl (fun V α β w a h hs _ hla _ hv=>?_) fun V α β w a h hs _ hla hv t e hg ht=>?_
  · obtain⟨k,q1,q2⟩:=ptr_rep hs hla hx hp
    refine⟨_,hop k a w (q2 hv),fun t e hg ht=>?_⟩
    cases gu with
    |none=>
      rw [show putP none o.dst env b f=put env o.dst (.p b f)from rfl,eget_put,if_pos e]
      exact⟨k,q1,put_self e ht⟩
    |some gu=>
      rw [show putP (some gu) o.dst env b f=put env o.dst (.pg gu.1 gu.2 b f)from rfl,eget_put,if_pos e]
      exact⟨k,q1,fun _=>put_self e ht⟩
  · obtain⟨k,q1,q2⟩:=ptr_rep hs hla hx hp
    cases gu with
    |none=>exact absurd (fun _ _ e=>by cases e) hv
    |some gu=>
      rw [show putP (some gu) o.dst env b f=put env o.dst (.pg gu.1 gu.2 b f)from rfl,eget_put,if_pos e]
      refine⟨k,q1,fun h2=>absurd (fun g' u' e'=>?_) hv⟩
      cases e'
      rw [put_other e ht (hg _ _ rfl)]at h2
      exact h2
end
end Go.X1

set_option maxRecDepth 100000
namespace Go.X1
variable [Nu]
section
variable {P:Program} {TT:List TI} {W0:World} {n0 nt:Nat} {V:Lc→E} {α:Al} {β:Be} {w:World} {a:Act} {env env':E} {gu:Option (Nat×Bool)} {o:Oper} {lf:Nat×A×H} {h:H} {k:K}
theorem Row.congr {k n:Nat}{f g:Nat→A}(h:Row α w k n f)(e:∀ i,f i=g i):Row α w k n g:=by
  rw [show g=f from funext fun i=>(e i).symm];exact h
theorem row_vals {b k n:Nat}(hr:Row α w k n (cget env.cl b)):∀(m q:Nat),q+m≤n→
    ∃ vs:List Value,vs.length=m∧(∀ j v,vs[j]? =some v→w.cell? ⟨k,q+j,none⟩=some v)∧(∀ v∈vs,v.oneCell'=true)∧RepL α vs (cellsAt env b q m)
  |0,q,_=>⟨[],rfl,fun j v hj=>by simp at hj,fun v hv=>by simp at hv,.nil⟩
  |m+1,q,hq=>by
    obtain⟨cs,el,h1,h2,h3⟩:=hr
    obtain⟨u,q1,q2,q3⟩:=h3 q (by omega)
    obtain⟨vs,g1,g2,g3,g4⟩:=row_vals ⟨cs,el,h1,h2,h3⟩ m (q+1) (by omega)
    refine⟨u::vs,by rw [List.length_cons,g1],fun j v hj=>?_,fun v hv=>?_,.cons q3 g4⟩
    · cases j with
      |zero=>
        simp only [List.getElem?_cons_zero,Option.some.injEq]at hj
        subst hj
        exact cell_of h1 q1
      |succ j=>
        have:=g2 j v (by simpa using hj)
        rw [show q+(j+1)=q+1+j by omega]
        exact this
    · rcases List.mem_cons.1 hv with rfl|hv
      · exact q2
      · exact g3 v hv
theorem bhas_some {pb:List (Nat×Nat)}{b q m:Nat}(h:bhas pb b q m=true):∃ n,bget pb b=some n∧q+m≤n:=by
  unfold bhas at h
  cases hb:bget pb b with
  |none=>rw [hb]at h;cases h
  |some n=>rw [hb]at h;exact⟨n,rfl,ble h⟩
theorem pf_ld (hT:TabOK P TT){t:Nat}{x:Operand}{b q:Nat}(ho:o.op=.load t x)(hz:nz TT t=true)(hp:ptrOf env gu x=some (b,q))(hb:bhas env.pb b q (tget? TT t).size=true):
    Pf P W0 n0 nt gu o env (putV gu o.dst env (bif (tget? TT t).agg then .nd 0 (cellsAt env b q (tget? TT t).size)else cget env.cl b q)) (.rd b):=by
  obtain⟨n,hn,hq⟩:=bhas_some hb
  have hpos:=nz_pos hz
  refine pf_val rfl (fun V α β w a h hs _ hla hba hv=>?_) fun V α β w a h hs _ hla hv t e _ ht=>putV_rep hs hla e ht (fun h=>absurd h hv) fun _=>rfl
  obtain⟨k,q1,q2⟩:=ptr_rep hs hla (by rw [ho];simp [Op.operands]) hp
  obtain⟨b1,b2⟩:=hba b rfl
  obtain⟨k',r1,r2⟩:=hs.base b n (by rw [b1];exact hn)
  rw [q1]at r1
  cases r1
  have r3:=r2.congr b2
  obtain⟨d,op,ty,pos,af,g⟩:=o
  have ho:op=_:=ho
  subst ho
  have hx:a.eval x=_:=q2 hv
  cases ha:(tget? TT t).agg
  · obtain⟨cs,el,g1,g2,g3⟩:=r3
    obtain⟨u,c1,c2,c3⟩:=g3 q (by omega)
    refine⟨u,?_,fun t' e _ ht=>putV_rep hs hla e ht (fun _=>c3) fun h=>absurd hv h⟩
    have hc:=cell_of (w:=w) g1 c1
    simp [execOp,hx,Instr.loadAt,Instr.sureAddr,loadVar,hT.isAgg hz,ha,hc]
  · obtain⟨vs,g1,g2,g3,g4⟩:=row_vals r3 (tget? TT t).size q hq
    refine⟨.agg ⟨vs⟩,?_,fun t' e _ ht=>putV_rep hs hla e ht (fun _=>.agg g4 g3) fun h=>absurd hv h⟩
    have hc:=run_loadCells_list (P:=P) w ⟨k,q,none⟩ vs (fun j v hj=>by rw [addr_add];exact g2 j v hj)
    rw [g1]at hc
    simp [execOp,hx,Instr.loadAt,Instr.sureAddr,loadVar,hT.isAgg hz,ha,hT.size hz,hc]
theorem setCl_get (b:Nat):∀(xs:List A) (i:Nat) (l:List ((Nat×Nat)×A)) (b' j:Nat),cget (setCl b i xs l) b' j=if b'=b∧i≤j∧j<i+xs.length then xs[j-i]?.getD junk else cget l b' j
  | [],i,l,b',j=>by rw [if_neg (fun h=>by simp only [List.length_nil]at h;omega)];rfl
  |x::xs,i,l,b',j=>by
    show(bif Nat.beq b' b&&Nat.beq j i then x else cget (setCl b (i+1) xs l) b' j)=_
    rw [setCl_get b xs (i+1) l b' j,nat_beq,nat_beq]
    by_cases hb:b'=b
    · subst hb
      by_cases hj:j=i
      · subst hj;simp
      · by_cases h2:i+1≤j∧j<i+1+xs.length
        · rw [if_pos ⟨rfl,h2⟩,if_pos ⟨rfl,by omega,by simp only [List.length_cons];omega⟩]
          rw [show j-i=(j-(i+1))+1 by omega]
          simp [hj]
        · rw [if_neg (fun h=>h2 h.2),if_neg (by simp;omega)]
          simp [hj]
    · rw [if_neg (fun h=>hb h.1),if_neg (fun h=>hb h.1)]
      simp [hb]
theorem pf_mk {d:Nat}{cs:List A}(hgu:gu=none)(hd:o.dst=some d)
    (hop:∀(α:Al) (w:World) (a:Act),(∀ y∈o.op.operands,Rep α (a.eval y) (val env y))→∃ vs el,(execOp a.eval o).run P w=.ok (.value (.pointer (some ⟨w.heap.size,0,none⟩))) (w.alloc (.cells ⟨vs⟩ el (0,0)))∧cs.length≤vs.length∧∀ i,i<cs.length→∃ v,vs[i]? =some v∧v.oneCell'=true∧Rep α v (cs[i]?.getD junk)):
    Pf P W0 n0 nt gu o env (newB env d cs) (.wr d):=by
  intro V α β w a h hs hw0 hr hla _ _ hdn _ hβ hpg N Q hn
  subst hgu
  refine⟨fun _=>?_,fun h=>absurd (fun _ _ e=>by cases e) h⟩
  obtain⟨vs,el,h1,h2,h3⟩:=hop α w a fun y hy=>op_rep hs hla hy
  refine value_wp h1 (hn (fun b=>if b=d then some w.heap.size else β b) _ _ (fun _ _ _ _ _ _ s=>s.alloc _) (fun b k e=>?_) (fun b e1 e2=>?_) ?_)
  · show(if b=d then some w.heap.size else β b)=_
    rw [if_neg (fun q=>by subst q;rw [hβ b hd rfl]at e;cases e)];exact e
  · by_cases hb:b=d
    · subst hb;exact⟨hd,rfl⟩
    · exfalso;apply e2
      exact(if_neg hb).trans e1
  · rw [hd]
    refine hs.mk' hw0 (fun i L e=>(hr.dom i L e).2.2) (hdn d hd) (hβ d hd rfl) h3 h2 (fun t g u b o e=>fun q=>hpg t g u b o e (by rw [hd,q])) ?_ ?_ fun i hi=>?_
    · show(bif Nat.beq d d then S.p d 0 else _)=_
      rw [nat_beq];simp
    · show(bif Nat.beq d d then some cs.length else _)=_
      rw [nat_beq];simp
    · show cget (setCl d 0 cs env.cl) d i=_
      rw [setCl_get,if_pos ⟨rfl,Nat.zero_le _,by omega⟩,Nat.sub_zero]
theorem pf_st {x:Operand}{b q:Nat}{cs:List A}(hgu:gu=none)(hd:o.dst=none)(hx:x∈o.op.operands)(hp:ptrOf env none x=some (b,q))(hb:bhas env.pb b q cs.length=true)
    (hop:∀(k:Nat) (α:Al) (w:World) (a:Act) (c0:Array Value) (el:TypeId),a.eval x=.pointer (some ⟨k,q,none⟩)→w.heap[k]? =some (.cells c0 el (0,0))→q+cs.length≤c0.size→(∀ y∈o.op.operands,Rep α (a.eval y) (val env y))→
      ∃ vs,(execOp a.eval o).run P w=.ok .skip (w.setRow k (c0.toList.take q++vs++c0.toList.drop (q+vs.length)).toArray)∧RepL α vs (lA cs)∧vs.length=cs.length∧∀ v∈vs,v.oneCell'=true):
    Pf P W0 n0 nt gu o env ⟨env.tm,setCl b q cs env.cl,env.pb⟩ (.wr b):=by
  intro V α β w a h hs hw0 hr hla _ hba hdn _ hβ hpg N Q hn
  subst hgu
  refine⟨fun hv=>?_,fun h=>absurd (fun _ _ e=>by cases e) h⟩
  obtain⟨k,q1,q2⟩:=ptr_rep hs hla hx hp
  obtain⟨n,hn',hq⟩:=bhas_some hb
  obtain⟨b1,b2⟩:=hba b rfl hd
  have hbn:bget (V (.b b)).pb b=some n:=by rw [b1];exact hn'
  obtain⟨k',r1,c0,el,g1,g2,g3⟩:=hs.base b n hbn
  rw [q1]at r1
  cases r1
  obtain⟨vs,e1,e2,e3,e4⟩:=hop k α w a c0 el (q2 hv) g1 (by omega) fun y hy=>op_rep hs hla hy
  obtain⟨o1,o2,o3⟩:=hs.own b k q1
  refine skip_wp e1 ?_
  rw [hd]
  refine hn β _ a (fun α0 w0 h0 h hW h1 s=>s.setRow hW _ (Nat.le_trans h1 o1) o3) (fun _ _ e=>e) (fun b e1 e2=>absurd e1 e2) ?_
  · rw [hd]
    refine hs.store hbn q1 g1 e2 e3 e4 (by omega) hn' fun i=>?_
    show cget (setCl b q cs env.cl) b i=_
    rw [setCl_get,b2]
    by_cases hi:q≤i∧i<q+cs.length
    · rw [if_pos ⟨rfl,hi⟩,if_pos hi]
    · rw [if_neg fun h=>hi h.2,if_neg hi]
theorem ch_cells {pv:List Nat}{b q:Nat}{cs:List A}(hd:o.dst=none):Ch pv gu o env ⟨env.tm,setCl b q cs env.cl,env.pb⟩ (.wr b) where
  slot t ht:=rfl
  base b' hb:=⟨rfl,fun i=>by
    show cget (setCl b q cs env.cl) b' i=_
    rw [setCl_get,if_neg fun h=>hb (by rw [h.1])]⟩
  pg t g u b q e:=.inl e
  fre d h _:=by rw [hd]at h;cases h
  wr b e:=.inl hd
theorem ch_new {pv:List Nat}{d:Nat}{cs:List A}(hd:o.dst=some d)(hp:hasN pv d=true)(hf:fresh env d=true):Ch pv gu o env (newB env d cs) (.wr d) where
  slot t ht:=by
    show(bif Nat.beq t d then S.p d 0 else _)=_
    rw [nat_beq,decide_eq_false fun e=>ht (by rw [hd,e])];rfl
  base b' hb:=by
    have hne:b'≠d:=fun e=>hb (by rw [e])
    refine⟨?_,fun i=>?_⟩
    · show(bif Nat.beq b' d then some cs.length else _)=_
      rw [nat_beq,decide_eq_false hne];rfl
    · show cget (setCl d 0 cs env.cl) b' i=_
      rw [setCl_get,if_neg fun h=>hne h.1]
  pg t g u b q e:=by
    by_cases ht:t=d
    · subst ht
      have:eget (newB env t cs).tm t=.p t 0:=by
        show(bif Nat.beq t t then S.p t 0 else _)=_
        rw [nat_beq];simp
      rw [this]at e;cases e
    · have:eget (newB env d cs).tm t=eget env.tm t:=by
        show(bif Nat.beq t d then S.p d 0 else _)=_
        rw [nat_beq,decide_eq_false ht];rfl
      rw [this]at e;exact .inl e
  fre d' h1 h2:=by cases h2;exact⟨hp,hf⟩
  wr b e:=by cases e;exact .inr hd
theorem ch_putV {pv:List Nat}{x:A}{ac:Ac}(hac:∀ b,ac≠ .wr b):Ch pv gu o env (putV gu o.dst env x) ac:=by
  cases gu with
  |none=>exact ch_put (fun _ _ _ _ e=>by cases e) hac
  |some g=>exact ch_put (s:=.v _) (fun _ _ _ _ e=>by cases e) hac
theorem ch_putP {pv:List Nat}{b q:Nat}{ac:Ac}(hac:∀ b,ac≠ .wr b):Ch pv gu o env (putP gu o.dst env b q) ac:=by
  cases gu with
  |none=>exact ch_put (fun _ _ _ _ e=>by cases e) hac
  |some g=>exact ch_put (s:=.pg g.1 g.2 b q) (fun g' u' _ _ e=>by cases e;rfl) hac
def Dop (P:Program)(W0:World)(n0 nt:Nat)(TT:List TI)(pu pv:List Nat)(gu:Option (Nat×Bool))(o:Oper)(env:E)(h:H)(env':E)(h':H)(ac:Ac):Prop:=
  Ch pv gu o env env' ac∧((GE gu env∧ac=.op∧∃ x,env'=put env o.dst (.v x)∧OpK P W0 (kindOf TT pu o.op) o.op (val env) h x h')∨(h'=h∧Pf P W0 n0 nt gu o env env' ac))
theorem oGrd_lf {x:A}{u:Bool}{m:(A→H→R)→R}{c:A→H→R}(hl:(oGrd x u h m c).lf=some lf):(x=.bool u∧(m c).lf=some lf)∨((x=.bool (!u)∨x=und)∧(c und h).lf=some lf):=by
  cases x with
  |bool t=>
    rcases rec_lf hl with ⟨h1,hl⟩|⟨h1,hl⟩
    · rw [eqb_eq]at h1
      exact .inl ⟨by cases t<;>cases u<;>simp_all,hl⟩
    · rw [eqb_eq]at h1
      exact .inr ⟨.inl (by cases t<;>cases u<;>simp_all),hl⟩
  |nd g l=>
    cases l with
    |nl=>
      obtain⟨h1,hl⟩:=oCk_lf hl
      have:g=1:=beq h1
      subst this
      exact .inr ⟨.inr rfl,hl⟩
    |_=>exact bad_lf hl
  |_=>exact bad_lf hl
theorem gen_sound {pu pv:List Nat}{F:H→(A→H→R)→R}{K:E→H→R}(hF:∀ c lf,(F h c).lf=some lf→∃ x h',(c x h').lf=some lf∧OpK P W0 (kindOf TT pu o.op) o.op (val env) h x h')
    (hl:(gen gu o.dst env h F K).lf=some lf):∃ env' h',(K env' h').lf=some lf∧Dop P W0 n0 nt TT pu pv gu o env h env' h' .op:=by
  replace hl:=tid_lf hl
  cases gu with
  |none=>
    obtain⟨x,h',h1,h2⟩:=hF _ _ hl
    exact⟨_,h',h1,ch_put (fun _ _ _ _ e=>by cases e) (fun b e=>by cases e),.inl ⟨(fun _ _ e=>by cases e),rfl,x,rfl,h2⟩⟩
  |some gu=>
    obtain⟨g,u⟩:=gu
    rcases oGrd_lf hl with ⟨hg,hl⟩|⟨hg,hl⟩
    · obtain⟨x,h',h1,h2⟩:=hF _ _ hl
      exact⟨_,h',h1,ch_put (fun _ _ _ _ e=>by cases e) (fun b e=>by cases e),.inl ⟨fun g' u' e=>by cases e;exact hg,rfl,x,rfl,h2⟩⟩
    · exact⟨_,h,hl,ch_put (fun _ _ _ _ e=>by cases e) (fun b e=>by cases e),.inr ⟨rfl,pf_skip rfl ⟨g,u,rfl,hg⟩⟩⟩
theorem unl_lf:∀(n:Nat) {l:A} {c:List A→R},(unl n l c).lf=some lf→∃ xs,xs.length=n∧n≤llen l∧(∀ i,i<n→nth l i=xs[i]?.getD junk)∧(c xs).lf=some lf
  |0,l,c,hl=>⟨[],rfl,Nat.zero_le _,fun i hi=>absurd hi (Nat.not_lt_zero _),tid_lf hl⟩
  |n+1,l,c,hl=>by
    obtain⟨x,r,h1,hl⟩:=oCn_lf (tid_lf hl)
    obtain⟨xs,h2,h3,h4,h5⟩:=unl_lf n hl
    refine⟨x::xs,by rw [List.length_cons,h2],by rw [h1,llen_cn];omega,fun i hi=>?_,h5⟩
    rw [h1]
    cases i with
    |zero=>rfl
    |succ i=>rw [nth_cnS,h4 i (by omega)];rfl
theorem repL_of:∀(vs:List Value) (xs:List A),vs.length=xs.length→(∀ (i:Nat) (v:Value),vs[i]? =some v→Rep α v (xs[i]?.getD junk))→RepL α vs (lA xs)
  | [],[],_,_=>.nil
  |v::vs,x::xs,hl,h=>.cons (h 0 v rfl) (repL_of vs xs (by simpa using hl) fun i u hu=>h (i+1) u (by simpa using hu))
  | [],_::_,hl,_=>by simp at hl
  |_::_,[],hl,_=>by simp at hl
theorem dop_sound {Γ:Cx}(hΓ:Γ.T=TT)(hT:TabOK P TT)(hB:TabB P TT)(hF:TabF P TT)(hk:CallOK P W0 k){K:E→H→Ac→R}(hl:(dop Γ k gu o env h K).lf=some lf):
    ∃ env' h' ac,(K env' h' ac).lf=some lf∧Dop P W0 n0 nt TT Γ.pu Γ.pv gu o env h env' h' ac:=by
  have hgen:∀{K:E→H→R},(gen gu o.dst env h (opF Γ k (val env) o.op) K).lf=some lf→∃ env' h',(K env' h').lf=some lf∧Dop P W0 n0 nt TT Γ.pu Γ.pv gu o env h env' h' .op:=fun hl=>
    gen_sound (fun c lf hl=>opF_sound hΓ hT hB hF hk (fun z=>rfl) hl) hl
  have hgen2:(gen gu o.dst env h (opF Γ k (val env) o.op) fun e h=>K e h .op).lf=some lf→∃ env' h' ac,(K env' h' ac).lf=some lf∧Dop P W0 n0 nt TT Γ.pu Γ.pv gu o env h env' h' ac:=fun hl=>by
    obtain⟨env',h',h1,h2⟩:=hgen hl
    exact⟨env',h',.op,h1,h2⟩
  have hmov:∀ x:Operand,(o.op=.move x∨o.op=.assign x)→(bb (isP env x) (match ptrOf env gu x with |some (b,f)=>K (putP gu o.dst env b f) h .no|none=>.bad) (K (putV gu o.dst env (val env x)) h .no)).lf=some lf→
      ∃ env' h' ac,(K env' h' ac).lf=some lf∧Dop P W0 n0 nt TT Γ.pu Γ.pv gu o env h env' h' ac:=fun x ho hl=>by
    rcases bb_lf hl with ⟨_,hl⟩|⟨_,hl⟩
    · split at hl
      · rename_i b f hp
        refine⟨_,_,_,hl,ch_putP (fun b e=>by cases e),.inr ⟨rfl,pf_ptr (x:=x) (by rcases ho with ho|ho<;>rw [ho]<;>simp [Op.operands]) hp fun k a w hx=>?_⟩⟩
        obtain⟨d,op,ty,pos,af,g⟩:=o
        rcases ho with ho|ho<;>(have ho:op=_:=ho;subst ho;simp [execOp,hx])
      · exact bad_lf hl
    · exact⟨_,_,_,hl,ch_putV (fun b e=>by cases e),.inr ⟨rfl,pf_mov ho⟩⟩
  unfold dop at hl
  replace hl:=tid_lf hl
  split at hl
  · rename_i x ho;exact hmov x (.inl ho) hl
  · rename_i x ho;exact hmov x (.inr ho) hl
  · rename_i x ho
    rcases bb_lf hl with ⟨_,hl⟩|⟨_,hl⟩
    · split at hl
      · rename_i b f hp
        refine⟨_,_,_,hl,ch_putP (fun b e=>by cases e),.inr ⟨rfl,pf_ptr (x:=x) (by rw [ho];simp [Op.operands]) hp fun k a w hx=>?_⟩⟩
        obtain⟨d,op,ty,pos,af,g⟩:=o
        have ho:op=_:=ho
        subst ho
        simp [execOp,hx]
      · exact bad_lf hl
    · rw [← ho]at hl;exact hgen2 hl
  · rename_i t x f ho
    rcases bb_lf hl with ⟨_,hl⟩|⟨_,hl⟩
    · split at hl
      · rename_i b q r ft hp hf
        rcases bb_lf hl with ⟨hz,hl⟩|⟨_,hl⟩
        · refine⟨_,_,_,hl,ch_putP (fun b e=>by cases e),.inr ⟨rfl,pf_ptr (x:=x) (by rw [ho];simp [Op.operands]) hp fun k a w hx=>?_⟩⟩
          rw [hΓ]at hf hz
          obtain⟨fields,fd,g1,g2,g3,g4⟩:=fieldOf_spec hT hf
          obtain⟨d,op,ty,pos,af,g⟩:=o
          have ho:op=_:=ho
          subst ho
          have hsz:(tget? TT ft).size≠0:=by have:=nz_pos hz;omega
          subst g3;subst g4
          simp [execOp,hx,Instr.fieldAt,run_underlying g1,g2,Instr.sureAddr,fieldPlace,hT.size hz,hsz,addr_add]
        · exact bad_lf hl
      · exact bad_lf hl
    · rw [← ho]at hl;exact hgen2 hl
  · rename_i t x ho
    rcases bb_lf hl with ⟨_,hl⟩|⟨_,hl⟩
    · split at hl
      · rename_i b q hp
        rcases bb_lf hl with ⟨hb,hl⟩|⟨_,hl⟩
        · rw [Bool.and_eq_true]at hb
          rw [hΓ]at hl hb
          exact⟨_,_,_,hl,ch_putV (fun b e=>by cases e),.inr ⟨rfl,pf_ld hT ho hb.1 hp hb.2⟩⟩
        · exact bad_lf hl
      · exact bad_lf hl
    · rw [← ho]at hl;exact hgen2 hl
  · rename_i e ho
    split at hl
    · rename_i d hd
      rcases bb_lf hl with ⟨hpv,hl⟩|⟨_,hl⟩
      · rcases bb_lf hl with ⟨hb,hl⟩|⟨_,hl⟩
        · rw [Bool.and_eq_true,Bool.and_eq_true]at hb
          obtain⟨⟨hz,h1⟩,hf⟩:=hb
          rw [hΓ]at hl hz h1
          refine⟨_,_,_,hl,ch_new hd hpv hf,.inr ⟨rfl,pf_mk rfl hd fun α w a hρ=>?_⟩⟩
          have h2:(tget? TT e).zero≠ []:=fun q=>by
            obtain⟨i,h1,h2,_⟩:=hT.info hz
            have:=(hB e i h1).2.1 (by have:=nz_pos hz;rw [← h2];omega)
            rw [← h2,q]at this
            have:=nz_pos hz
            simp at *;omega
          obtain⟨z,q1,q2⟩:=hT.zero h2
          obtain⟨d,op,ty,pos,af,g⟩:=o
          have ho:op=_:=ho
          subst ho
          refine⟨z.cells.toList,e,by simp only [execOp,Instr.alloc,Sem.run_bind,q1,Result.andThen_ok];rfl,by rw [← q2];simp,fun i hi=>?_⟩
          rw [← q2]at hi h1 ⊢
          have hi:i<z.cells.toList.length:=by simpa using hi
          refine⟨z.cells.toList[i],List.getElem?_eq_getElem hi,oneA_one (rep_cv α _) (List.all_eq_true.1 h1 _ (List.mem_map_of_mem (List.getElem_mem hi))),?_⟩
          rw [List.getElem?_map,List.getElem?_eq_getElem hi]
          exact rep_cv α _
        · exact bad_lf hl
      · rw [← ho,← hd]at hl;exact hgen2 hl
    · rw [← ho]at hl;exact hgen2 hl
  · rename_i e x ho
    split at hl
    · rename_i d hd
      rcases bb_lf hl with ⟨hpv,hl⟩|⟨_,hl⟩
      · rcases bb_lf hl with ⟨hb,hl⟩|⟨_,hl⟩
        · rw [Bool.and_eq_true]at hb
          obtain⟨hz,hf⟩:=hb
          rcases bb_lf hl with ⟨_,hl⟩|⟨_,hl⟩
          · obtain⟨g,l,hx,hl⟩:=oNd_lf hl
            obtain⟨g0,hl⟩:=oCk_lf hl
            have g0:g=0:=beq g0
            rw [g0]at hx
            obtain⟨xs,u1,u2,u3,hl⟩:=unl_lf _ hl
            refine⟨_,_,_,hl,ch_new hd hpv hf,.inr ⟨rfl,pf_mk rfl hd fun α w a hρ=>?_⟩⟩
            have hv:=hρ x (by rw [ho];simp [Op.operands])
            rw [hx]at hv
            obtain⟨vs,q0,q1,q2⟩:=rep_agg hv
            obtain⟨d,op,ty,pos,af,g⟩:=o
            have ho:op=_:=ho
            subst ho
            have hlen:=q1.len
            refine⟨vs,e,by simp only [execOp,q0,Instr.box,newVar,newRow,Value.cells];rfl,by omega,fun i hi=>?_⟩
            have hlt:i<vs.length:=by omega
            refine⟨vs[i],List.getElem?_eq_getElem hlt,q2 _ (List.getElem_mem hlt),?_⟩
            rw [← u3 i (by omega)]
            exact q1.get _ _ (List.getElem?_eq_getElem hlt)
          · obtain⟨hl,hone⟩:=oOne_lf hl
            refine⟨_,_,_,hl,ch_new hd hpv hf,.inr ⟨rfl,pf_mk rfl hd fun α w a hρ=>?_⟩⟩
            have hv:=hρ x (by rw [ho];simp [Op.operands])
            obtain⟨q1,q2⟩:=hone α _ hv
            obtain⟨d,op,ty,pos,af,g⟩:=o
            have ho:op=_:=ho
            subst ho
            refine⟨[a.eval x],e,by simp only [execOp,Instr.box,newVar,newRow,q2];rfl,Nat.le_refl _,fun i hi=>?_⟩
            have:i=0:=by simp at hi;omega
            subst this
            exact⟨_,rfl,q1,hv⟩
        · exact bad_lf hl
      · rw [← ho,← hd]at hl;exact hgen2 hl
    · rw [← ho]at hl;exact hgen2 hl
  · rename_i t x v ho
    rcases bb_lf hl with ⟨_,hl⟩|⟨_,hl⟩
    · split at hl
      · rename_i b q hd _ hp
        rcases bb_lf hl with ⟨hb,hl⟩|⟨_,hl⟩
        · rw [Bool.and_eq_true]at hb
          obtain⟨hz,hb⟩:=hb
          rw [hΓ]at hz hb hl
          rcases bb_lf hl with ⟨_,hl⟩|⟨_,hl⟩
          · obtain⟨g,l,hx,hl⟩:=oNd_lf hl
            obtain⟨g0,hl⟩:=oCk_lf hl
            obtain⟨g1,hl⟩:=oCk_lf hl
            have g0:g=0:=beq g0
            have g1:llen l=(tget? TT t).size:=beq g1
            rw [g0]at hx
            obtain⟨xs,u1,u2,u3,hl⟩:=unl_lf _ hl
            refine⟨_,_,_,hl,ch_cells hd,.inr ⟨rfl,pf_st rfl hd (x:=x) (by rw [ho];simp [Op.operands]) hp (by rw [u1];exact hb) fun k α w a c0 el hxk hw hq hρ=>?_⟩⟩
            have hv:=hρ v (by rw [ho];simp [Op.operands])
            rw [hx]at hv
            obtain⟨vs,q0,q1,q2⟩:=rep_agg hv
            have hlen:=q1.len
            obtain⟨d,op,ty,pos,af,g⟩:=o
            have ho:op=_:=ho
            subst ho
            have hrun:=run_storeCells_fz (P:=P) k q el vs 0 c0 w hw (by omega) q2
            simp only [Nat.add_zero]at hrun
            have hsz:=hT.size hz
            refine⟨vs,?_,repL_of vs xs (by omega) fun i u hu=>?_,by omega,q2⟩
            · have h3:vs.length=(tget? TT t).size:=by omega
              simp [execOp,hxk,q0,Instr.storeAt,Instr.sureAddr,storeVar,hsz,Value.cells,h3]at hrun ⊢
              simp [hrun]
            · have hi:i<vs.length:=by
                rcases Nat.lt_or_ge i vs.length with h|h
                · exact h
                · rw [List.getElem?_eq_none h]at hu;cases hu
              rw [← u3 i (by omega)]
              exact q1.get _ _ hu
          · rcases bb_lf hl with ⟨h1,hl⟩|⟨_,hl⟩
            · obtain⟨hl,hone⟩:=oOne_lf hl
              have h1:=sz1_eq h1
              refine⟨_,_,_,hl,ch_cells (cs:=[val env v]) hd,.inr ⟨rfl,pf_st (cs:=[val env v]) rfl hd (x:=x) (by rw [ho];simp [Op.operands]) hp (by show bhas env.pb b q 1=true;rw [← h1];exact hb) fun k α w a c0 el hxk hw hq hρ=>?_⟩⟩
              have hv:=hρ v (by rw [ho];simp [Op.operands])
              obtain⟨q1,q2⟩:=hone α _ hv
              obtain⟨d,op,ty,pos,af,g⟩:=o
              have ho:op=_:=ho
              subst ho
              have hrun:=run_storeCells_fz (P:=P) k q el [a.eval v] 0 c0 w hw (by simpa using hq) (by simpa using q1)
              simp only [Nat.add_zero]at hrun
              have hsz:=hT.size hz
              rw [h1]at hsz
              exact⟨[a.eval v],by simp [execOp,hxk,Instr.storeAt,Instr.sureAddr,storeVar,hsz,q2,hrun],.cons hv .nil,rfl,by simpa using q1⟩
            · exact bad_lf hl
        · exact bad_lf hl
      · exact bad_lf hl
    · rw [← ho]at hl;exact hgen2 hl
  · exact hgen2 hl
end
end Go.X1

set_option maxRecDepth 100000
namespace Go.X1
variable [Nu]
theorem hasN_iff:∀(l:List Nat) (i:Nat),hasN l i=true↔i∈l
  | [],i=>by simp [hasN]
  |x::r,i=>by
    rw [hasN,Bool.or_eq_true,hasN_iff r i,Nat.beq_eq,List.mem_cons]
theorem eget_mem:∀(l:List (Nat×S)) (t:Nat),(∃ s,(t,s)∈l∧eget l t=s)∨eget l t=.v junk
  | [],t=>.inr rfl
  |(k,s)::r,t=>by
    show(∃ s',_∧(bif Nat.beq t k then s else eget r t)=s')∨(bif Nat.beq t k then s else eget r t)=_
    rw [nat_beq]
    by_cases h:t=k
    · subst h
      exact .inl ⟨s,by simp,by simp⟩
    · rw [decide_eq_false h]
      rcases eget_mem r t with ⟨s',h1,h2⟩|h1
      · exact .inl ⟨s',by simp [h1],h2⟩
      · exact .inr h1
theorem fresh_pb {env:E}{d:Nat}(h:fresh env d=true):bget env.pb d=none:=by
  unfold fresh at h
  rw [Bool.and_eq_true]at h
  cases hb:bget env.pb d with
  |none=>rfl
  |some n=>rw [hb]at h;simp at h
theorem fresh_tm {env:E}{d t:Nat}{b o:Nat}(h:fresh env d=true)(e:eget env.tm t=.p b o∨∃ g u,eget env.tm t=.pg g u b o):b≠d:=by
  unfold fresh at h
  rw [Bool.and_eq_true]at h
  have h2:=List.all_eq_true.1 h.2
  rcases eget_mem env.tm t with ⟨s,m,q⟩|q
  · have:=h2 _ m
    rcases e with e|⟨g,u,e⟩<;>
    · rw [e]at q
      subst q
      simp [notBase,nat_beq]at this
      exact this
  · rcases e with e|⟨g,u,e⟩<;>rw [e]at q<;>cases q
theorem eget_purge:∀(l:List (Nat×S)) (t:Nat),eget (l.map unPg) t=match eget l t with |.pg ..=>.v junk|s=>s
  | [],t=>rfl
  |(k,s)::r,t=>by
    have ih:=eget_purge r t
    cases s<;>
    · simp only [List.map_cons]
      show(bif Nat.beq t k then _ else eget (r.map unPg) t)=match (bif Nat.beq t k then _ else eget r t)with |.pg ..=>S.v junk|s=>s
      rw [ih]
      cases Nat.beq t k<;>rfl
section
variable {P:Program} {TT:List TI} {W0:World} {n0 nt:Nat} {V:Lc→E} {α:Al} {β:Be} {w:World} {a:Act} {env env':E} {gu:Option (Nat×Bool)} {o:Oper} {lf:Nat×A×H} {h h':H} {k:K}
theorem wanted_iff {ops:List Oper}(hg:guardOf ops o=some gu):Region.wanted o (yielded ⟨ops⟩ a.tmps)=true↔GV gu a:=by
  unfold guardOf at hg
  unfold Region.wanted
  cases hgd:o.guard with
  |none=>
    rw [hgd]at hg
    cases hg
    exact⟨(fun _ _ _ e=>by cases e),fun _=>rfl⟩
  |some jw=>
    obtain⟨j,u⟩:=jw
    rw [hgd]at hg
    simp only at hg ⊢
    split at hg
    · rename_i d hd
      have:gu=some (d,u):=by
        cases hsd:selfD o d
        · rw [hsd]at hg;cases hg;rfl
        · rw [hsd]at hg;cases hg
      subst this
      have hd':((⟨ops⟩:Array Oper)[j]?).bind (·.dst)=some d:=by simpa using hd
      unfold yielded
      rw [hd',Option.bind_some]
      constructor
      · intro e g' u' e'
        cases e'
        rw [Array.getD_eq_getD_getElem?]
        cases hq:a.tmps[d]? with
        |none=>rw [hq]at e;cases e
        |some v=>
          rw [hq]at e
          cases v<;>simp at e
          rw [e];rfl
      · intro e
        have e:=e d u rfl
        rw [Array.getD_eq_getD_getElem?]at e
        cases hq:a.tmps[d]? with
        |none=>rw [hq]at e;cases e
        |some v=>rw [hq]at e;simp at e;rw [e];simp
    · cases hg
theorem guardOf_ne {ops:List Oper}(hg:guardOf ops o=some gu):∀ g u,gu=some (g,u)→o.dst≠some g:=by
  intro g u e hd
  subst e
  unfold guardOf at hg
  split at hg
  · cases hg
  · split at hg
    · rename_i d _
      cases hsd:selfD o d
      · rw [hsd]at hg
        cases hg
        unfold selfD at hsd
        rw [hd]at hsd
        simp at hsd
      · rw [hsd]at hg;cases hg
    · cases hg
theorem SV.congr {V':Lc→E}(hs:SV n0 nt V α β w a)(h1:∀ t,eget (V' (.s t)).tm t=eget (V (.s t)).tm t)(h2:∀ b,bget (V' (.b b)).pb b=bget (V (.b b)).pb b∧∀ i,cget (V' (.b b)).cl b i=cget (V (.b b)).cl b i):SV n0 nt V' α β w a where
  defers:=hs.defers
  size:=hs.size
  slot t:=by rw [h1];exact hs.slot t
  base b n hb:=by
    obtain⟨k,q1,q2⟩:=hs.base b n (by rw [← (h2 b).1];exact hb)
    exact⟨k,q1,q2.congr fun i=>((h2 b).2 i).symm⟩
  own:=hs.own
  inj:=hs.inj
theorem SV.drop {d:Nat}(hs:SV n0 nt V α β w a)(hp:∀ t b o,(eget (V (.s t)).tm t=.p b o∨∃ g u,eget (V (.s t)).tm t=.pg g u b o)→b≠d)(hb:bget (V (.b d)).pb d=none):SV n0 nt V α (fun b=>if b=d then none else β b) w a where
  defers:=hs.defers
  size:=hs.size
  slot t:=by
    have h1:=hs.slot t
    cases hq:eget (V (.s t)).tm t with
    |v x=>rw [hq]at h1;exact h1
    |p b o=>
      rw [hq]at h1
      obtain⟨k,q1,q2⟩:=h1
      exact⟨k,(if_neg (hp t b o (.inl hq))).trans q1,q2⟩
    |pg g u b o=>
      rw [hq]at h1
      obtain⟨k,q1,q2⟩:=h1
      exact⟨k,(if_neg (hp t b o (.inr ⟨g,u,hq⟩))).trans q1,q2⟩
  base b n hb':=by
    obtain⟨k,q1,q2⟩:=hs.base b n hb'
    exact⟨k,(if_neg fun e=>by subst e;rw [hb]at hb';cases hb').trans q1,q2⟩
  own b k hb':=hs.own b k (by
    by_cases e:b=d
    · rw [if_pos e]at hb';cases hb'
    · rw [if_neg e]at hb';exact hb')
  inj b b' k h1 h2:=by
    by_cases e:b=d
    · rw [if_pos e]at h1;cases h1
    · by_cases e':b'=d
      · rw [if_pos e']at h2;cases h2
      · rw [if_neg e]at h1
        rw [if_neg e']at h2
        exact hs.inj b b' k h1 h2
def ST (W0:World)(nt:Nat)(α0:Al)(w0:World)(h0:H)(env:E)(h:H)(a:Act)(w:World):Prop:=
  ∃ α β,SV w0.heap.size nt (fun _=>env) α β w a∧Step W0 α0 w0 h0 α w h
theorem upd_congr {pv:List Nat}{ac:Ac}(hc:Ch pv gu o env env' ac)(hs:SV n0 nt (upd (fun _=>env) o.dst (wrB ac) env') α β w a):SV n0 nt (fun _=>env') α β w a:=by
  refine hs.congr (fun t=>?_) fun b=>?_
  · by_cases e:o.dst=some t
    · rw [show upd (fun _=>env) o.dst (wrB ac) env' (.s t)=env' from if_pos e]
    · rw [show upd (fun _=>env) o.dst (wrB ac) env' (.s t)=env from if_neg e]
      exact hc.slot t e
  · by_cases e:wrB ac=some b
    · rw [show upd (fun _=>env) o.dst (wrB ac) env' (.b b)=env' from if_pos e]
      exact⟨rfl,fun _=>rfl⟩
    · rw [show upd (fun _=>env) o.dst (wrB ac) env' (.b b)=env from if_neg e]
      exact hc.base b fun q=>e (by rw [q];rfl)
theorem ops_o {x:A}(hs:OpS P W0 o.op (val env) h x h')(hr:HR W0 α w h)(hρ:∀ y∈o.op.operands,Rep α (a.eval y) (val env y)){N:Act→World→Prop}{Q:Exit→Act→World→Prop}(hn:∀ α' w' v,Step W0 α w h α' w' h'→Rep α' v x→N (a.put o.dst v) w'):Oper.wp P o a w N Q:=by
  obtain⟨d,op,ty,pos,af,g⟩:=o
  exact hs d ty pos af g α w a hr hρ N Q hn
variable {α0:Al} {w0:World} {h0:H}
theorem op_seq {pu pv:List Nat}{ac:Ac}(hW:W0.heap.size≤w0.heap.size)(hd:Dop P W0 w0.heap.size nt TT pu pv gu o env h env' h' ac)(hs:ST W0 nt α0 w0 h0 env h a w)
    (hdn:∀ t,o.dst=some t→t<nt) (hgd:∀ g u,gu=some (g,u)→o.dst≠some g) (hpg:∀ t g u b q,eget env.tm t=.pg g u b q→o.dst≠some g)
    {N:Act→World→Prop} {Q:Exit→Act→World→Prop} (hn:∀ w' a',ST W0 nt α0 w0 h0 env' h' a' w'→N a' w'):OpStep P gu o a w N Q:=by
  obtain⟨α,β,hs,hst⟩:=hs
  obtain⟨hc,hd⟩:=hd
  have hla:LA (fun _=>env) env (looks gu o):=fun _ _=>rfl
  rcases hd with ⟨hge,rfl,x,rfl,hk⟩|⟨rfl,hpf⟩
  · refine⟨fun _=>?_,fun hv=>absurd (ge_gv hs hla hge) hv⟩
    refine ops_o hk.ops hst.hr (fun y hy=>op_rep hs hla hy) fun α' w' v s1 s2=>hn w' _ ⟨α',β,?_,hst.trans s1⟩
    refine upd_congr hc ((hs.grow s1.grow).put hdn hpg fun t e=>?_)
    rw [eget_put,if_pos e]
    show Rep α' _ x
    rw [put_self e (Nat.lt_of_lt_of_le (hdn t e) hs.size)];exact s2
  · by_cases hmk:∃ d,o.dst=some d∧ac=.wr d
    · obtain⟨d,e1,e2⟩:=hmk
      obtain⟨_,hf⟩:=hc.fre d e1 e2
      have hs':=hs.drop (d:=d) (fun t b o e=>fresh_tm hf e) (fresh_pb hf)
      exact hpf (fun _=>env) α _ w a h' hs' hst.fr.size hst.hr hla (fun _ _=>⟨rfl,fun _=>rfl⟩) (fun _ _ _=>⟨rfl,fun _=>rfl⟩) hdn hgd (fun d' e3 e4=>if_pos (by rw [e1]at e3;cases e3;rfl)) hpg N Q fun β' w' a' q1 _ _ q2=>hn w' a' ⟨α,β',upd_congr hc q2,q1 _ _ _ _ hW (Nat.le_refl _) hst⟩
    · exact hpf (fun _=>env) α β w a h' hs hst.fr.size hst.hr hla (fun _ _=>⟨rfl,fun _=>rfl⟩) (fun _ _ _=>⟨rfl,fun _=>rfl⟩) hdn hgd (fun d' e3 e4=>absurd ⟨d',e3,e4⟩ hmk) hpg N Q fun β' w' a' q1 _ _ q2=>hn w' a' ⟨α,β',upd_congr hc q2,q1 _ _ _ _ hW (Nat.le_refl _) hst⟩
def PgI (env:E)(dn:List Nat):Prop:=∀ t g u b q,eget env.tm t=.pg g u b q→g∈dn
theorem nodupD_cons {l:List Oper}(h:nodupD nt (o::l)=true):(∀ d,o.dst=some d→d<nt∧∀ p∈l,p.dst≠some d)∧nodupD nt l=true:=by
  unfold nodupD at h
  rw [Bool.and_eq_true]at h
  refine⟨fun d hd=>?_,h.2⟩
  have h1:=h.1
  rw [hd]at h1
  simp only [Bool.and_eq_true]at h1
  refine⟨blt h1.1,fun p hp e=>?_⟩
  have:=List.all_eq_true.1 h1.2 p hp
  rw [e]at this
  simp at this
theorem pg_step {pv:List Nat}{ac:Ac}{dn:List Nat}(hc:Ch pv gu o env env' ac)(hg:gOk dn gu=true)(hp:PgI env dn):PgI env' (addD o dn):=fun t g u b q e=>by
  have hm:g∈dn:=by
    rcases hc.pg t g u b q e with h|h
    · exact hp t g u b q h
    · subst h;exact(hasN_iff _ _).1 hg
  unfold addD
  cases o.dst with
  |none=>exact hm
  |some d=>exact List.mem_cons_of_mem _ hm
theorem dops_sound {Γ:Cx}(hΓ:Γ.T=TT)(hT:TabOK P TT)(hB:TabB P TT)(hF:TabF P TT)(hk:CallOK P W0 k)(hW:W0.heap.size≤w0.heap.size){ops:List Oper}:∀(l:List Oper) (dn:List Nat) (env:E) (h:H) (K:E→H→R),(dops Γ k ops dn l env h K).lf=some lf→nodupD nt l=true→(∀ p∈l,∀ d,p.dst=some d→d∉dn)→PgI env dn→
    ∃ env' h',(K env' h').lf=some lf∧∀(Q:Exit→Act→World→Prop),(∀ a w,ST W0 nt α0 w0 h0 env' h' a w→Q .normal a w)→∀ a w,ST W0 nt α0 w0 h0 env h a w→wpList P ⟨ops⟩ Q l a w
  | [],dn,env,h,K,hl,_,_,_=>⟨env,h,tid_lf hl,fun Q hQ a w hs=>hQ a w hs⟩
  |o::r,dn,env,h,K,hl,hnd,hdj,hpg=>by
    unfold dops at hl
    split at hl
    · rename_i gu hg
      rcases bb_lf hl with ⟨hgo,hl⟩|⟨_,hl⟩
      · obtain⟨env1,h1,ac,hl,hd⟩:=dop_sound (n0:=w0.heap.size) (nt:=nt) hΓ hT hB hF hk hl
        obtain⟨n1,n2⟩:=nodupD_cons hnd
        obtain⟨env',h',q1,q2⟩:=dops_sound hΓ hT hB hF hk hW r (addD o dn) env1 h1 K hl n2 (fun p hp d hd'=>by
          unfold addD
          cases ho:o.dst with
          |none=>exact hdj p (by simp [hp]) d hd'
          |some d0=>
            intro hm
            rcases List.mem_cons.1 hm with rfl|hm
            · exact(n1 _ ho).2 p hp hd'
            · exact hdj p (by simp [hp]) d hd' hm) (pg_step hd.1 hgo hpg)
        refine⟨env',h',q1,fun Q hQ a w hs=>?_⟩
        obtain⟨s1,s2⟩:=op_seq (N:=wpList P ⟨ops⟩ Q r) (Q:=Q) hW hd hs (fun t e=>(n1 t e).1) (guardOf_ne hg) (fun t g u b q e e2=>hdj o (by simp) g e2 (hpg t g u b q e)) fun w' a' hs'=>q2 Q hQ a' w' hs'
        unfold wpList
        by_cases hw:Region.wanted o (yielded ⟨ops⟩ a.tmps)=true
        · rw [if_pos hw];exact .inl (s1 ((wanted_iff hg).1 hw))
        · rw [if_neg hw];exact s2 fun hv=>hw ((wanted_iff hg).2 hv)
      · exact bad_lf hl
    · exact bad_lf (tid_lf hl)
theorem st_purge (hs:ST W0 nt α0 w0 h0 env h a w):ST W0 nt α0 w0 h0 (purge env) h a w:=by
  obtain⟨α,β,hs,hst⟩:=hs
  refine⟨α,β,⟨hs.defers,hs.size,fun t=>?_,fun b n hb=>hs.base b n hb,hs.own,hs.inj⟩,hst⟩
  show SR α β a t (eget (env.tm.map unPg) t)
  rw [eget_purge]
  have:=hs.slot t
  cases hq:eget env.tm t with
  |v x=>rw [hq]at this;exact this
  |p b q=>rw [hq]at this;exact this
  |pg g u b q=>exact .unk _
def NoPg (env:E):Prop:=∀ t g u b q,eget env.tm t≠ .pg g u b q
theorem noPg_purge (env:E):NoPg (purge env):=fun t g u b q e=>by
  have e:eget (env.tm.map unPg) t=_:=e
  rw [eget_purge]at e
  cases hq:eget env.tm t<;>rw [hq]at e<;>cases e
theorem region_seq {Γ:Cx}(hΓ:Γ.T=TT)(hT:TabOK P TT)(hB:TabB P TT)(hF:TabF P TT)(hk:CallOK P W0 k)(hW:W0.heap.size≤w0.heap.size){ops:List Oper}{id:Nat}{K:E→H→R}(hnp:NoPg env)(hnd:nodupD nt ops=true)(hl:(dops Γ k ops [] ops env h fun env h=>K (purge env) h).lf=some lf):
    ∃ env' h',NoPg env'∧(K env' h').lf=some lf∧∀(Q:Exit→Act→World→Prop),(∀ a w,ST W0 nt α0 w0 h0 env' h' a w→Q .normal a w)→∀ a w,ST W0 nt α0 w0 h0 env h a w→(Code.region id ⟨ops⟩ false).wp P Q a w:=by
  obtain⟨env',h',q1,q2⟩:=dops_sound hΓ hT hB hF hk hW ops [] env h _ hl hnd (fun _ _ _ _=>by simp) (fun t g u b q e=>absurd e (hnp t g u b q))
  exact⟨purge env',h',noPg_purge env',q1,fun Q hQ a w hs=>wp_region_list (q2 Q (fun a w hs=>hQ a w (st_purge hs)) a w hs)⟩
end
end Go.X1

set_option maxRecDepth 100000
namespace Go.X1
variable [Nu]
open Go.Region (ready binds)
theorem bit_eq (m j:Nat):bit m j=m.testBit j:=by
  unfold bit Nat.testBit
  show Nat.beq ((m >>> j) &&& 1) 1=(1 &&& (m >>> j) != 0)
  rw [Nat.and_comm]
  have h:1 &&& (m >>> j)=(m >>> j) % 2:=by rw [Nat.and_comm];exact Nat.and_one_is_mod _
  rw [h]
  rcases Nat.mod_two_eq_zero_or_one (m >>> j)with e|e<;>rw [e]<;>rfl
theorem maskD_bit (ms:List Nat)(j:Nat):∀ l:List Nat,bit (maskD ms l) j=true→∃ k∈l,j=k∨bit (ms[k]?.getD 0) j=true
  | [],h=>by rw [maskD,bit_eq]at h;simp at h
  |k::r,h=>by
    rw [maskD,bit_eq]at h
    have h:((Nat.shiftLeft 1 k ||| (ms[k]?.getD 0)) ||| maskD ms r).testBit j=true:=h
    rw [Nat.testBit_or,Nat.testBit_or,Bool.or_eq_true,Bool.or_eq_true]at h
    rcases h with (h|h)|h
    · have h:(1 <<< k).testBit j=true:=h
      rw [Nat.one_shiftLeft,Nat.testBit_two_pow]at h
      exact⟨k,by simp,.inl (by
          have:k=j:=by simpa using h
          exact this.symm)⟩
    · exact⟨k,by simp,.inr (by rw [bit_eq];exact h)⟩
    · obtain⟨k',h1,h2⟩:=maskD_bit ms j r (by rw [bit_eq];exact h)
      exact⟨k',by simp [h1],h2⟩
theorem masks_app:∀(l:List Oper) (ms:List Nat),∃ t,masks l ms=ms++t∧t.length=l.length
  | [],ms=>⟨[],by simp [masks],rfl⟩
  |o::r,ms=>by
    obtain⟨t,h1,h2⟩:=masks_app r (ms++[maskD ms (deps o)])
    exact⟨maskD ms (deps o)::t,by rw [masks,h1];simp,by simp [h2]⟩
theorem masks_get:∀(l:List Oper) (ms:List Nat) (i:Nat) (o:Oper),l[i]? =some o→∃ pre t,masks l ms=pre++t∧pre.length=ms.length+i∧(masks l ms)[ms.length+i]? =some (maskD pre (deps o))
  | [],_,i,o,h=>by simp at h
  |o'::r,ms,0,o,h=>by
    simp at h
    subst h
    obtain⟨t,h1,h2⟩:=masks_app r (ms++[maskD ms (deps o')])
    refine⟨ms,maskD ms (deps o')::t,by rw [masks,h1];simp,by simp,?_⟩
    rw [masks,h1]
    simp
  |o'::r,ms,i+1,o,h=>by
    obtain⟨pre,t,h1,h2,h3⟩:=masks_get r (ms++[maskD ms (deps o')]) i o (by simpa using h)
    refine⟨pre,t,by rw [masks];exact h1,by rw [h2];simp;omega,?_⟩
    rw [masks,show ms.length+(i+1)=(ms++[maskD ms (deps o')]).length+i by simp;omega]
    exact h3
theorem anc_listed {ops:List Oper}{L:Nat→Prop}(hc:∀ i o,ops[i]? =some o→L i→∀ k∈deps o,L k):∀(n i:Nat) (o:Oper),i<n→ops[i]? =some o→(∀ k∈deps o,L k)→∀ j,anc (masks ops []) i j=true→L j
  |0,_,_,h,_,_,_,_=>absurd h (Nat.not_lt_zero _)
  |n+1,i,o,hi,ho,hd,j,h=>by
    obtain⟨pre,t,h1,h2,h3⟩:=masks_get ops [] i o ho
    unfold anc at h
    simp only [List.length_nil,Nat.zero_add]at h2 h3
    rw [h3]at h
    obtain⟨k,k1,k2⟩:=maskD_bit pre j (deps o) h
    rcases k2 with rfl|k2
    · exact hd _ k1
    · cases hk:pre[k]? with
      |none=>rw [hk,bit_eq]at k2;simp at k2
      |some m=>
        have hki:k<i:=by
          rcases Nat.lt_or_ge k pre.length with h|h
          · omega
          · rw [List.getElem?_eq_none h]at hk;cases hk
        have hil:i<ops.length:=by
          rcases Nat.lt_or_ge i ops.length with h|h
          · exact h
          · rw [List.getElem?_eq_none h]at ho;cases ho
        have hko:ops[k]? =some ops[k]:=List.getElem?_eq_getElem (by omega)
        have e:(masks ops [])[k]? =pre[k]? :=by rw [h1,List.getElem?_append_left (by omega)]
        exact anc_listed hc n k _ (by omega) hko (hc k _ hko (hd k k1)) j (by unfold anc;rw [e];exact k2)
structure Rec where
  i:Nat
  o:Oper
  gu:Option (Nat×Bool)
  e:E
  h:H
  e':E
  h':H
  ac:Ac
def kd (T:List TI)(pu:List Nat)(r:Rec):Option Kd:=match r.ac with |.op=>some (kindOf T pu r.o.op)|_=>none
def acc (r:Rec):Option (Nat×Bool):=match r.ac with |.rd b=>some (b,false)|.wr b=>some (b,true)|_=>none
def Again (P:Program)(W0:World)(T:List TI)(pu:List Nat)(r:Rec)(h2:H):Prop:=
  GE r.gu r.e→∃ h3,OpK P W0 (kindOf T pu r.o.op) r.o.op (val r.e) h2 (dval r.o r.e') h3
structure PairX (P:Program) (W0:World) (T:List TI) (pu:List Nat) (ms:List Nat) (x y:Rec):Prop where
  ne:x.i≠y.i
  s1:∀ d,x.o.dst=some d→d∈looks y.gu y.o→anc ms y.i x.i=true
  s2:∀ d,y.o.dst=some d→d∈looks x.gu x.o→anc ms y.i x.i=true
  nn:kd T pu y=some .n→(kd T pu x=some .m∨kd T pu x=some .p)→anc ms y.i x.i=true
  ac:∀ b w1 w2,acc x=some (b,w1)→acc y=some (b,w2)→(w1=true∨w2=true)→anc ms y.i x.i=true
  r1:kd T pu x=some .m→(kd T pu y=some .l∨kd T pu y=some .p)→anc ms y.i x.i=false→Again P W0 T pu y x.h
  r2:kd T pu y=some .m→(kd T pu x=some .l∨kd T pu x=some .p)→anc ms y.i x.i=false→Again P W0 T pu x y.h'
structure Pair (P:Program) (W0:World) (T:List TI) (pu:List Nat) (ms:List Nat) (x y:Rec):Prop extends PairX P W0 T pu ms x y where
  mm:kd T pu x=some .m→kd T pu y=some .m→anc ms y.i x.i=true
structure RecOK (P:Program) (W0:World) (n0 nt:Nat) (T:List TI) (pu pv:List Nat) (ops:List Oper) (dn:List Rec) (r:Rec):Prop where
  op:ops[r.i]? =some r.o
  gu:guardOf ops r.o=some r.gu
  dop:Dop P W0 n0 nt T pu pv r.gu r.o r.e r.h r.e' r.h' r.ac
  deps:∀ k∈deps r.o,∃ x∈dn,x.i=k
  g:∀ g u,r.gu=some (g,u)→∃ x∈dn,x.o.dst=some g
structure LgOK (P:Program) (W0:World) (T:List TI) (pu:List Nat) (ops:List Oper) (ms:List Nat) (lf:Nat×A×H) (lg:DL) (dn:List Rec):Prop where
  op:∀ x∈dn,ops[x.i]? =some x.o
  sl:∀ x∈dn,∀(j:Nat) (o:Oper) (d:Nat),ops[j]? =some o→o.dst=some d→d∈looks x.gu x.o→j∉lg.ds→anc ms j x.i=true
  ds:∀ i,i∈lg.ds↔∃ x∈dn,x.i=i
  len:lg.ds.length=dn.length
  dd:∀ d∈lg.dn,∃ x∈dn,x.o.dst=some d
  ms:∀ x∈dn,kd T pu x=some .m→(x.i,x.h)∈lg.ms
  ps:∀ x∈dn,(kd T pu x=some .m∨kd T pu x=some .p)→x.i∈lg.ps
  rs:∀ x∈dn,(kd T pu x=some .l∨kd T pu x=some .p)→∃ f,(x.i,f)∈lg.rs∧∀ h r,(f h r).lf=some lf→Again P W0 T pu x h
  rsr:∀ p∈lg.rs,∀ h r,(p.2 h r).lf=some lf→r.lf=some lf
  ac:∀ x∈dn,∀ b w,acc x=some (b,w)→(x.i,b,w)∈lg.ac
def Chain:E→H→List Rec→E→H→Prop
  |env,h,[],env',h'=>env=env'∧h=h'
  |env,h,r::rs,env',h'=>r.e=env∧r.h=h∧Chain r.e' r.h' rs env' h'
def AllOK (P:Program)(W0:World)(n0 nt:Nat)(T:List TI)(pu pv:List Nat)(ops:List Oper):List Rec→List Rec→Prop
  |_,[]=>True
  |dn,r::rs=>RecOK P W0 n0 nt T pu pv ops dn r∧AllOK P W0 n0 nt T pu pv ops (r::dn) rs
end Go.X1

set_option maxRecDepth 100000
namespace Go.X1
variable [Nu]
section
variable {P:Program} {TT:List TI} {W0:World} {n0 nt:Nat} {lf:Nat×A×H} {k:K} {Γ:Cx} {env:E} {h:H}
theorem hput_eq {h:H}{b:Nat}(hro:h.ro≤b)(v:B)(c:H→R):hput h b v c=c (h.put b v):=by
  cases h with |mk t n r=>
  show oCk (Nat.ble r b) (c (.mk (tset v t b) n r))=_
  rw [Nat.ble_eq_true_of_le (show r≤b from hro)];rfl
theorem oBlk_eq {h:H}{b n lo:Nat}{t:T A}(hb:tget .no h.tr b=.cs n lo t)(c:Nat→Nat→T A→R):oBlk h b c=c n lo t:=by
  cases h with |mk u m r=>
  show @B.rec (fun _=>R) .bad c fMp (tget .no u b)=_
  rw [show tget .no u b=.cs n lo t from hb]
theorem oCk_eq {b:Bool}(h:b=true)(r:R):oCk b r=r:=by rw [h];rfl
theorem oSt_form {p v:A}{c:H→R}(hl:(oSt p v h c).lf=some lf):∃ b o n B0,p=.ref 1 b o n∧tget .no h.tr b≠ .no∧h.ro≤b∧∀(h2:H),tget .no h2.tr b=tget .no h.tr b→h2.ro=h.ro→∀ c':H→R,oSt p v h2 c'=c' (h2.put b B0):=by
  obtain⟨b,o,n,rfl,hl⟩:=oPt_lf hl
  obtain⟨q,lo,tr,hb,hl⟩:=oBlk_lf hl
  obtain⟨g1,hl⟩:=oCk_lf hl
  obtain⟨g2,hl⟩:=oCk_lf hl
  have hone:∀ r:R,oOne v r=r:=fun r=>by
    cases v with
    |nd g cs=>
      obtain⟨g3,_⟩:=oCk_lf (r:=hput h b (.cs q lo (tset (.nd g cs) tr o)) c) hl
      exact oCk_eq g3 r
    |nl=>cases hl
    |cn _ _=>cases hl
    |_=>rfl
  rw [hone]at hl
  obtain⟨hro,hl⟩:=hput_lf hl
  refine⟨b,o,n,.cs q lo (tset v tr o),rfl,by rw [hb];simp,hro,fun h2 e1 e2 c'=>?_⟩
  show oBlk h2 b (fun n lo t=>oCk (Nat.ble lo o) (oCk (Nat.blt o n) (oOne v (hput h2 b (.cs n lo (tset v t o)) c'))))=_
  rw [oBlk_eq (e1.trans hb),oCk_eq g1,oCk_eq g2,hone,hput_eq (by rw [e2];exact hro)]
theorem oStN_form {m:Nat}{p v:A}{c:H→R}(hl:(oStN m p v h c).lf=some lf):∃ b o n B0,p=.ref 1 b o n∧tget .no h.tr b≠ .no∧h.ro≤b∧∀(h2:H),tget .no h2.tr b=tget .no h.tr b→h2.ro=h.ro→∀ c':H→R,oStN m p v h2 c'=c' (h2.put b B0):=by
  obtain⟨b,o,n,rfl,hl⟩:=oPt_lf hl
  obtain⟨q,lo,tr,hb,hl⟩:=oBlk_lf hl
  obtain⟨g,l,rfl,hl⟩:=oNd_lf hl
  obtain⟨g1,hl⟩:=oCk_lf hl
  obtain⟨g2,hl⟩:=oCk_lf hl
  obtain⟨g3,hl⟩:=oCk_lf hl
  obtain⟨g4,hl⟩:=oCk_lf hl
  obtain⟨hro,hl⟩:=hput_lf hl
  refine⟨b,o,n,.cs q lo (tsets l tr o),rfl,by rw [hb];simp,hro,fun h2 e1 e2 c'=>?_⟩
  show oBlk h2 b (fun n lo t=>oCk (Nat.beq g 0) (oCk (Nat.beq (llen l) m) (oCk (Nat.ble lo o) (oCk (Nat.ble (Nat.add o m) n) (hput h2 b (.cs n lo (tsets l t o)) c')))))=_
  rw [oBlk_eq (e1.trans hb),oCk_eq g1,oCk_eq g2,oCk_eq g3,oCk_eq g4,hput_eq (by rw [e2];exact hro)]
def Form (Γ:Cx)(k:K)(o:Oper)(env:E)(h:H)(b:Nat)(B0:B):Prop:=tget .no h.tr b≠ .no∧h.ro≤b∧∀(h2:H),tget .no h2.tr b=tget .no h.tr b→h2.ro=h.ro→∀ K:E→H→Ac→R,dop Γ k none o env h2 K=K env (h2.put b B0) .op
theorem store_form {o:Oper}{x:Operand}(hx:plainSt env o=some x){K:E→H→Ac→R}(hl:(dop Γ k none o env h K).lf=some lf):∃ b q n B0,val env x=.ref 1 b q n∧Form Γ k o env h b B0:=by
  obtain⟨d,op,ty,pos,af,g⟩:=o
  unfold plainSt at hx
  split at hx
  · rename_i t y v e1 e2 e3
    simp only at e1 e2 e3
    subst e1 e2 e3
    cases hp:isP env y<;>rw [hp]at hx
    · simp only [Option.some.injEq]at hx
      subst hx
      have hd:∀(h:H) (K:E→H→Ac→R),dop Γ k none ⟨none,.store t y v,ty,pos,af,none⟩ env h K=bb (isP env y) (match (none:Option (Nat×Bool)),(none:Option Nat),ptrOf env none y with
       |none,none,some (b,q)=>bb (nz Γ.T t&&bhas env.pb b q (tget? Γ.T t).size) (bb (tget? Γ.T t).agg
           (oNd (val env v) fun g l=>oCk (Nat.beq g (nat_lit 0)) (oCk (Nat.beq (llen l) (tget? Γ.T t).size) (unl (tget? Γ.T t).size l fun cs=>K ⟨env.tm,setCl b q cs env.cl,env.pb⟩ h (.wr b))))
           (bb (sz1 Γ.T t) (oOne (val env v) (K ⟨env.tm,((b,q),val env v)::env.cl,env.pb⟩ h (.wr b))) .bad)) .bad
       |_,_,_=>.bad) (opF Γ k (val env) (.store t y v) h fun _ h=>K env h .op):=fun h K=>rfl
      have hf:∀(h:H) (c:A→H→R),opF Γ k (val env) (.store t y v) h c=bb (nz Γ.T t) (bb (tget? Γ.T t).agg (oStN (tget? Γ.T t).size (val env y) (val env v) h fun h=>c und h) (bb (sz1 Γ.T t) (oSt (val env y) (val env v) h fun h=>c und h) .bad)) .bad:=fun h c=>rfl
      rw [hd,hp]at hl
      have hl:(opF Γ k (val env) (.store t y v) h fun _ h=>K env h .op).lf=some lf:=hl
      rw [hf]at hl
      have hd2:∀(h:H) (K:E→H→Ac→R),dop Γ k none ⟨none,.store t y v,ty,pos,af,none⟩ env h K=bb (nz Γ.T t) (bb (tget? Γ.T t).agg (oStN (tget? Γ.T t).size (val env y) (val env v) h fun h=>K env h .op) (bb (sz1 Γ.T t) (oSt (val env y) (val env v) h fun h=>K env h .op) .bad)) .bad:=fun h K=>by
        rw [hd,hp]
        show opF Γ k (val env) (.store t y v) h (fun _ h=>K env h .op)=_
        rw [hf]
      rcases bb_lf hl with ⟨z1,hl⟩|⟨_,hl⟩
      · rcases bb_lf hl with ⟨z2,hl⟩|⟨z2,hl⟩
        · obtain⟨b,q,n,B0,f1,f2,f3,f4⟩:=oStN_form hl
          refine⟨b,q,n,B0,f1,f2,f3,fun h2 e1 e2 K=>?_⟩
          rw [hd2,z1,z2]
          exact f4 h2 e1 e2 _
        · rcases bb_lf hl with ⟨z3,hl⟩|⟨_,hl⟩
          · obtain⟨b,q,n,B0,f1,f2,f3,f4⟩:=oSt_form hl
            refine⟨b,q,n,B0,f1,f2,f3,fun h2 e1 e2 K=>?_⟩
            rw [hd2,z1,z2,z3]
            exact f4 h2 e1 e2 _
          · exact bad_lf hl
      · exact bad_lf hl
    · cases hx
  · cases hx
def Fm (Γ:Cx)(k:K)(r:Rec):Prop:=∀ t p v,r.o.op=.store t p v→r.o.dst=none→r.o.guard=none→r.ac=.op→∃ b q n B0,val r.e p=.ref 1 b q n∧Form Γ k r.o r.e r.h b B0∧r.e'=r.e∧r.h'=r.h.put b B0∧r.gu=none
theorem dop_form (hΓ:Γ.T=TT)(hT:TabOK P TT)(hB:TabB P TT)(hF:TabF P TT)(hk:CallOK P W0 k){o:Oper}{b:Nat}{B0:B}(hf:Form Γ k o env h b B0){h2:H}(e1:tget .no h2.tr b=tget .no h.tr b)(e2:h2.ro=h.ro):
    Dop P W0 n0 nt TT Γ.pu Γ.pv none o env h2 env (h2.put b B0) .op:=by
  classical
  have hl:=hf.2.2 h2 e1 e2 (fun e h' ac=>if e=env∧h'=h2.put b B0∧ac=.op then .go 0 .nl h2 else .bad)
  rw [if_pos ⟨rfl,rfl,rfl⟩]at hl
  obtain⟨env',h',ac,q1,q2⟩:=dop_sound (n0:=n0) (nt:=nt) hΓ hT hB hF hk (lf:=(0,.nl,h2)) (by rw [hl];rfl)
  split at q1
  · rename_i hc
    obtain⟨rfl,rfl,rfl⟩:=hc
    exact q2
  · cases q1
theorem plain_gu {o:Oper}{x:Operand}{gu:Option (Nat×Bool)}{ops:List Oper}(hx:plainSt env o=some x)(hg:guardOf ops o=some gu):gu=none∧o.dst=none∧∃ t v,o.op=.store t x v:=by
  obtain⟨d,op,ty,pos,af,g⟩:=o
  unfold plainSt at hx
  split at hx
  · rename_i t y v e1 e2 e3
    simp only at e1 e2 e3
    subst e1 e2 e3
    cases hp:isP env y<;>rw [hp]at hx
    · simp only [Option.some.injEq]at hx
      subst hx
      cases hg
      exact⟨rfl,rfl,t,v,rfl⟩
    · cases hx
  · cases hx
theorem store_priv {t p v ty pos af}(hp:isP env p=true)(K K2:E→H→Ac→R)(hK:∀ e h b,K2 e h (.wr b)=K e h (.wr b)):dop Γ k none ⟨none,.store t p v,ty,pos,af,none⟩ env h K2=dop Γ k none ⟨none,.store t p v,ty,pos,af,none⟩ env h K:=by
  have hd:∀(K:E→H→Ac→R),dop Γ k none ⟨none,.store t p v,ty,pos,af,none⟩ env h K=bb (isP env p) (match (none:Option (Nat×Bool)),(none:Option Nat),ptrOf env none p with
       |none,none,some (b,q)=>bb (nz Γ.T t&&bhas env.pb b q (tget? Γ.T t).size) (bb (tget? Γ.T t).agg
           (oNd (val env v) fun g l=>oCk (Nat.beq g (nat_lit 0)) (oCk (Nat.beq (llen l) (tget? Γ.T t).size) (unl (tget? Γ.T t).size l fun cs=>K ⟨env.tm,setCl b q cs env.cl,env.pb⟩ h (.wr b))))
           (bb (sz1 Γ.T t) (oOne (val env v) (K ⟨env.tm,((b,q),val env v)::env.cl,env.pb⟩ h (.wr b))) .bad)) .bad
       |_,_,_=>.bad) (opF Γ k (val env) (.store t p v) h fun _ h=>K env h .op):=fun K=>rfl
  rw [hd,hd,hp]
  show(match (none:Option (Nat×Bool)),(none:Option Nat),ptrOf env none p with |none,none,some (b,q)=>_|_,_,_=>_)=_
  simp only [hK]
  rfl
theorem dop_soundF (hΓ:Γ.T=TT)(hT:TabOK P TT)(hB:TabB P TT)(hF:TabF P TT)(hk:CallOK P W0 k){gu:Option (Nat×Bool)}{o:Oper}{ops:List Oper}(hg:guardOf ops o=some gu){K:E→H→Ac→R}(hl:(dop Γ k gu o env h K).lf=some lf):
    ∃ env' h' ac,(K env' h' ac).lf=some lf∧Dop P W0 n0 nt TT Γ.pu Γ.pv gu o env h env' h' ac∧∀ i,Fm Γ k ⟨i,o,gu,env,h,env',h',ac⟩:=by
  classical
  by_cases hs:∃ t p v,o.op=.store t p v∧o.dst=none∧o.guard=none
  · obtain⟨t,p,v,s1,s2,s3⟩:=hs
    obtain⟨d,op,ty,pos,af,g⟩:=o
    simp only at s1 s2 s3
    subst s1 s2 s3
    cases hg
    cases hp:isP env p
    · have hx:plainSt env ⟨none,.store t p v,ty,pos,af,none⟩=some p:=by
        unfold plainSt
        simp only [hp]
      obtain⟨b,q,n,B0,f1,f2⟩:=store_form hx hl
      rw [f2.2.2 h rfl rfl K]at hl
      refine⟨env,h.put b B0,.op,hl,dop_form hΓ hT hB hF hk f2 rfl rfl,fun i t' p' v' e _ _ _=>?_⟩
      have e:Op.store t p v=.store t' p' v':=e
      cases e
      exact⟨b,q,n,B0,f1,f2,rfl,rfl,rfl⟩
    · rw [← store_priv hp K (fun e h ac=>match ac with |.wr b=>K e h (.wr b)|_=>.bad) (fun _ _ _=>rfl)]at hl
      obtain⟨env',h',ac,q1,q2⟩:=dop_sound (n0:=n0) (nt:=nt) hΓ hT hB hF hk hl
      cases ac with
      |wr b=>exact⟨env',h',.wr b,q1,q2,fun i t' p' v' _ _ _ e=>by cases e⟩
      |_=>cases q1
  · obtain⟨env',h',ac,q1,q2⟩:=dop_sound (n0:=n0) (nt:=nt) hΓ hT hB hF hk hl
    exact⟨env',h',ac,q1,q2,fun i t p v e1 e2 e3 _=>absurd ⟨t,p,v,e1,e2,e3⟩ hs⟩
end
end Go.X1

set_option maxRecDepth 100000
namespace Go.X1
variable [Nu]
section
variable {P:Program} {TT:List TI} {W0:World} {n0 nt:Nat} {lf:Nat×A×H} {k:K} {Γ:Cx} {ops:List Oper} {ms:List Nat}
theorem rerun_lf (hΓ:Γ.T=TT)(hT:TabOK P TT)(hB:TabB P TT)(hF:TabF P TT)(hk:CallOK P W0 k){gu:Option (Nat×Bool)}{o:Oper}{env:E}{v:A}{h2:H}{r:R}(hl:(rerun Γ k gu o env v h2 r).lf=some lf):
    r.lf=some lf∧(GE gu env→∃ h3,OpK P W0 (kindOf TT Γ.pu o.op) o.op (val env) h2 v h3):=by
  have go:∀{c:A→H→R},(opF Γ k (val env) o.op h2 fun x h=>oCk (eqA x v) (c x h)).lf=some lf→∃ x h,(c x h).lf=some lf∧∃ h3,OpK P W0 (kindOf TT Γ.pu o.op) o.op (val env) h2 v h3:=fun hl=>by
    obtain⟨x,h3,hl1,ho⟩:=opF_sound hΓ hT hB hF hk (fun z=>rfl) hl
    obtain⟨g1,hl2⟩:=oCk_lf hl1
    rw [eqA_eq _ _ g1]at ho hl2
    exact⟨_,_,hl2,h3,ho⟩
  replace hl:=tid_lf hl
  cases gu with
  |none=>
    obtain⟨_,_,h1,h2⟩:=go (c:=fun _ _=>r) hl
    exact⟨h1,fun _=>h2⟩
  |some gu=>
    obtain⟨g,u⟩:=gu
    rcases oGrd_lf hl with ⟨_,hl⟩|⟨hg,hl⟩
    · obtain⟨_,_,h1,h2⟩:=go (c:=fun _ _=>r) hl
      exact⟨h1,fun _=>h2⟩
    · refine⟨hl,fun he=>?_⟩
      have:=he g u rfl
      rcases hg with hg|hg<;>rw [this]at hg
      · cases u<;>cases hg
      · cases hg
theorem again1_lf {i:Nat}{f:H→R→R}{r:R}{AG:H→Prop}(hf:∀ h r,(f h r).lf=some lf→r.lf=some lf∧AG h):∀ l:List (Nat×H),(again1 ms i f l r).lf=some lf→r.lf=some lf∧∀ p∈l,anc ms i p.1=false→AG p.2
  | [],hl=>⟨hl,fun p hp=>by simp at hp⟩
  |(j,h)::l,hl=>by
    have hl:R.lf (bif anc ms i j then again1 ms i f l r else f h (again1 ms i f l r))=some lf:=hl
    cases ha:anc ms i j
    · rw [ha]at hl
      obtain⟨h1,h2⟩:=hf _ _ hl
      obtain⟨h3,h4⟩:=again1_lf hf l h1
      exact⟨h3,fun p hp hpa=>by
        rcases List.mem_cons.1 hp with rfl|hp
        · exact h2
        · exact h4 p hp hpa⟩
    · rw [ha]at hl
      obtain⟨h3,h4⟩:=again1_lf hf l hl
      exact⟨h3,fun p hp hpa=>by
        rcases List.mem_cons.1 hp with rfl|hp
        · rw [ha]at hpa;cases hpa
        · exact h4 p hp hpa⟩
theorem again2_lf {i:Nat}{h:H}{r:R}:∀ l:List (Nat×(H→R→R)),(∀ p∈l,∀ h r,(p.2 h r).lf=some lf→r.lf=some lf)→(again2 ms i h l r).lf=some lf→r.lf=some lf∧∀ p∈l,anc ms i p.1=false→∃ r',(p.2 h r').lf=some lf
  | [],_,hl=>⟨hl,fun p hp=>by simp at hp⟩
  |(j,f)::l,hf,hl=>by
    have hl:R.lf (bif anc ms i j then again2 ms i h l r else f h (again2 ms i h l r))=some lf:=hl
    have hf':∀ p∈l,∀ h r,(p.2 h r).lf=some lf→r.lf=some lf:=fun p hp=>hf p (by simp [hp])
    cases ha:anc ms i j
    · rw [ha]at hl
      obtain⟨h3,h4⟩:=again2_lf l hf' (hf (j,f) (by simp) _ _ hl)
      exact⟨h3,fun p hp hpa=>by
        rcases List.mem_cons.1 hp with rfl|hp
        · exact⟨_,hl⟩
        · exact h4 p hp hpa⟩
    · rw [ha]at hl
      obtain⟨h3,h4⟩:=again2_lf l hf' hl
      exact⟨h3,fun p hp hpa=>by
        rcases List.mem_cons.1 hp with rfl|hp
        · rw [ha]at hpa;cases hpa
        · exact h4 p hp hpa⟩
theorem okSlots_spec {ds:List Nat}{i:Nat}{ts:List Nat}(h:okSlots ops ms ds i ts=true){j:Nat}{o:Oper}{d:Nat}(ho:ops[j]? =some o)(hd:o.dst=some d)(ht:d∈ts):(j∈ds→anc ms i j=true)∧(j∉ds→anc ms j i=true):=by
  have hj:j<ops.length:=by
    rcases Nat.lt_or_ge j ops.length with h|h
    · exact h
    · rw [List.getElem?_eq_none h]at ho;cases ho
  have:=List.all_eq_true.1 h j (List.mem_range.2 hj)
  rw [ho]at this
  simp only [Option.bind_some,hd]at this
  rw [(hasN_iff ts d).2 ht]at this
  simp only [Bool.not_true,Bool.false_or]at this
  constructor
  · intro hm
    rw [(hasN_iff ds j).2 hm]at this
    exact this
  · intro hm
    have hf:hasN ds j=false:=by
      cases hh:hasN ds j
      · rfl
      · exact absurd ((hasN_iff ds j).1 hh) hm
    rw [hf]at this
    exact this
theorem okAc_spec {i b:Nat}{w:Bool}{ac:List (Nat×Nat×Bool)}(h:okAc ms i b w ac=true){j:Nat}{w2:Bool}(hm:(j,b,w2)∈ac)(hw:w2=true∨w=true):anc ms i j=true:=by
  have:=List.all_eq_true.1 h _ hm
  have hw':(w||w2)=true:=by rcases hw with h|h<;>simp [h]
  simpa [hw']using this
theorem pair_of {lg:DL}{dn:List Rec}{pu:List Nat}{y:Rec}(hlg:LgOK P W0 TT pu ops ms lf lg dn)(hsl:okSlots ops ms lg.ds y.i (looks y.gu y.o)=true)(hno:y.i∉lg.ds)(hoy:ops[y.i]? =some y.o)
    (hm:kd TT pu y=some .m→∀ p∈lg.ms,anc ms y.i p.1=true) (hn:kd TT pu y=some .n→∀ j∈lg.ps,anc ms y.i j=true) (ha:∀ b w,acc y=some (b,w)→okAc ms y.i b w lg.ac=true)
    (h1:(kd TT pu y=some .l∨kd TT pu y=some .p)→∀ p∈lg.ms,anc ms y.i p.1=false→Again P W0 TT pu y p.2)
    (h2:kd TT pu y=some .m→∀ p∈lg.rs,anc ms y.i p.1=false→∃ r',(p.2 y.h' r').lf=some lf):∀ x∈dn,Pair P W0 TT pu ms x y:=fun x hx=>by
  have ho:=hlg.op x hx
  have hxd:x.i∈lg.ds:=(hlg.ds x.i).2 ⟨x,hx,rfl⟩
  refine⟨⟨fun e=>hno (e ▸ hxd),fun d hd hl=>(okSlots_spec hsl ho hd hl).1 hxd,fun d hd hl=>hlg.sl x hx y.i y.o d hoy hd hl hno,fun k1 k2=>hn k1 _ (hlg.ps x hx k2),fun b w1 w2 a1 a2 hw=>okAc_spec (ha b w2 a2) (hlg.ac x hx b w1 a1) hw,fun k1 k2 hf=>h1 k2 _ (hlg.ms x hx k1) hf,fun k1 k2 hf=>?_⟩,fun k1 k2=>hm k2 _ (hlg.ms x hx k1)⟩
  obtain⟨f,f1,f2⟩:=hlg.rs x hx k2
  obtain⟨r',hr'⟩:=h2 k1 _ f1 hf
  exact f2 _ _ hr'
theorem lg_of {lg lg':DL}{dn:List Rec}{pu:List Nat}{y:Rec}(hlg:LgOK P W0 TT pu ops ms lf lg dn)(hsl:okSlots ops ms lg.ds y.i (looks y.gu y.o)=true)(hoy:ops[y.i]? =some y.o)
    (e1:lg'.ds=y.i::lg.ds) (e2:lg'.dn=addD y.o lg.dn) (e3:lg'.ms=lg.ms∧kd TT pu y≠some .m∨lg'.ms=(y.i,y.h)::lg.ms) (e4:lg'.ps=lg.ps∧kd TT pu y≠some .m∧kd TT pu y≠some .p∨lg'.ps=y.i::lg.ps)
    (e5:lg'.rs=lg.rs∧kd TT pu y≠some .l∧kd TT pu y≠some .p∨∃ f,lg'.rs=(y.i,f)::lg.rs∧∀ h r,(f h r).lf=some lf→r.lf=some lf∧Again P W0 TT pu y h)
    (e6:lg'.ac=lg.ac∧acc y=none∨∃ b w,acc y=some (b,w)∧lg'.ac=(y.i,b,w)::lg.ac):LgOK P W0 TT pu ops ms lf lg' (y::dn) where
  op x hx:=by
    rcases List.mem_cons.1 hx with rfl|hx
    · exact hoy
    · exact hlg.op x hx
  sl x hx j o d ho hd hl hj:=by
    rw [e1]at hj
    rcases List.mem_cons.1 hx with rfl|hx
    · exact(okSlots_spec hsl ho hd hl).2 fun h=>hj (by simp [h])
    · exact hlg.sl x hx j o d ho hd hl fun h=>hj (by simp [h])
  ds i:=by
    rw [e1,List.mem_cons,hlg.ds]
    constructor
    · rintro(rfl|⟨x,h1,h2⟩)
      · exact⟨y,by simp,rfl⟩
      · exact⟨x,by simp [h1],h2⟩
    · rintro⟨x,h1,h2⟩
      rcases List.mem_cons.1 h1 with rfl|h1
      · exact .inl h2.symm
      · exact .inr ⟨x,h1,h2⟩
  len:=by rw [e1,List.length_cons,List.length_cons,hlg.len]
  dd d hd:=by
    rw [e2]at hd
    unfold addD at hd
    cases hy:y.o.dst with
    |none=>
      rw [hy]at hd
      obtain⟨x,h1,h2⟩:=hlg.dd d hd
      exact⟨x,by simp [h1],h2⟩
    |some d'=>
      rw [hy]at hd
      rcases List.mem_cons.1 hd with rfl|hd
      · exact⟨y,by simp,hy⟩
      · obtain⟨x,h1,h2⟩:=hlg.dd d hd
        exact⟨x,by simp [h1],h2⟩
  ms x hx k1:=by
    rcases List.mem_cons.1 hx with rfl|hx
    · rcases e3 with ⟨_,e3⟩|e3
      · exact absurd k1 e3
      · rw [e3];simp
    · rcases e3 with ⟨e3,_⟩|e3<;>rw [e3]
      · exact hlg.ms x hx k1
      · exact List.mem_cons_of_mem _ (hlg.ms x hx k1)
  ps x hx k1:=by
    rcases List.mem_cons.1 hx with rfl|hx
    · rcases e4 with ⟨_,e4,e4'⟩|e4
      · rcases k1 with k1|k1
        · exact absurd k1 e4
        · exact absurd k1 e4'
      · rw [e4];simp
    · rcases e4 with ⟨e4,_⟩|e4<;>rw [e4]
      · exact hlg.ps x hx k1
      · exact List.mem_cons_of_mem _ (hlg.ps x hx k1)
  rs x hx k1:=by
    rcases List.mem_cons.1 hx with rfl|hx
    · rcases e5 with ⟨_,e5,e5'⟩|⟨f,e5,e5'⟩
      · rcases k1 with k1|k1
        · exact absurd k1 e5
        · exact absurd k1 e5'
      · exact⟨f,by rw [e5];simp,fun h r hl=>(e5' h r hl).2⟩
    · obtain⟨f,f1,f2⟩:=hlg.rs x hx k1
      rcases e5 with ⟨e5,_⟩|⟨_,e5,_⟩
      · exact⟨f,by rw [e5];exact f1,f2⟩
      · exact⟨f,by rw [e5];exact List.mem_cons_of_mem _ f1,f2⟩
  rsr p hp h r hl:=by
    rcases e5 with ⟨e5,_⟩|⟨f,e5,e5'⟩
    · rw [e5]at hp;exact hlg.rsr p hp h r hl
    · rw [e5]at hp
      rcases List.mem_cons.1 hp with rfl|hp
      · exact(e5' h r hl).1
      · exact hlg.rsr p hp h r hl
  ac x hx b w k1:=by
    rcases List.mem_cons.1 hx with rfl|hx
    · rcases e6 with ⟨_,e6⟩|⟨b',w',e6,e6'⟩
      · rw [e6]at k1;cases k1
      · rw [e6]at k1;cases k1;rw [e6'];simp
    · rcases e6 with ⟨e6,_⟩|⟨b',w',_,e6⟩<;>rw [e6]
      · exact hlg.ac x hx b w k1
      · exact List.mem_cons_of_mem _ (hlg.ac x hx b w k1)
structure Heq (h1 h2:H):Prop where
  nx:h1.nx=h2.nx
  ro:h1.ro=h2.ro
  tr:∀ b,tget .no h1.tr b=tget .no h2.tr b
  full:Full h1.tr h1.nx→Full h2.tr h2.nx
structure Swap (P:Program) (W0:World) (n0 nt:Nat) (T:List TI) (pu pv:List Nat) (x y:Rec):Prop where
  ne:x.i≠y.i
  dx:x.o.dst=none
  dy:y.o.dst=none
  kx:kindOf T pu x.o.op=.m
  ky:kindOf T pu y.o.op=.m
  ax:x.ac=.op
  ay:y.ac=.op
  e1:x.e'=x.e
  e2:y.e=x.e
  e3:y.e'=x.e
  hxy:y.h=x.h'
  nd:x.i∉deps y.o
  sw:Full x.h.tr x.h.nx→∃ hy hyx,Dop P W0 n0 nt T pu pv y.gu y.o x.e x.h x.e hy .op∧Dop P W0 n0 nt T pu pv x.gu x.o x.e hy x.e hyx .op∧Heq hyx y.h'
def Out (P:Program)(W0:World)(n0 nt:Nat)(T:List TI)(pu pv:List Nat)(ops:List Oper)(ms:List Nat)(lf:Nat×A×H)(K:E→H→R)(dn:List Rec)(env:E)(h:H):Prop:=
  (∃ rs env' h',(K env' h').lf=some lf∧Chain env h rs env' h'∧AllOK P W0 n0 nt T pu pv ops dn rs∧(∀ x∈dn,∀ y∈rs,Pair P W0 T pu ms x y)∧rs.Pairwise (Pair P W0 T pu ms)∧dn.length+rs.length=ops.length)∨
  (∃ rs x y env' h',(K env' h').lf=some lf∧Chain env h (rs++[y]) env' h'∧AllOK P W0 n0 nt T pu pv ops dn (rs++[y])∧(∀ x∈dn,∀ z∈rs,Pair P W0 T pu ms x z)∧rs.Pairwise (Pair P W0 T pu ms)∧dn.length+rs.length+1=ops.length∧
    (rs.getLast? =some x∨rs=[]∧dn.head? =some x)∧(∀ q,q∈dn∨q∈rs→PairX P W0 T pu ms q y∧(q.i≠x.i→kd T pu q=some .m→anc ms y.i q.i=true))∧(∀ q,q∈dn∨q∈rs→(kd T pu q=some .l∨kd T pu q=some .p)→anc ms x.i q.i=true∧anc ms y.i q.i=true)∧Swap P W0 n0 nt T pu pv x y)
structure Lg2 (Γ:Cx) (k:K) (T:List TI) (lg:DL) (dn:List Rec) (env:E) (h:H):Prop where
  fm:∀ q∈dn,Fm Γ k q
  hd:∀ q,dn.head? =some q→q.e'=env∧q.h'=h
  ds:lg.ds=dn.map (·.i)
  nd:(dn.map (·.i)).Nodup
  ms:∀ p∈lg.ms,∃ q∈dn,q.i=p.1∧kd T Γ.pu q=some .m
theorem plain_spec {env:E}{o:Oper}{x:Operand}(hx:plainSt env o=some x):∃ t v,o.op=.store t x v∧o.dst=none∧o.guard=none:=by
  obtain⟨d,op,ty,pos,af,g⟩:=o
  unfold plainSt at hx
  split at hx
  · rename_i t y v e1 e2 e3
    simp only at e1 e2 e3
    subst e1 e2 e3
    cases hp:isP env y<;>rw [hp]at hx
    · simp only [Option.some.injEq]at hx
      subst hx
      exact⟨t,v,rfl,rfl,rfl⟩
    · cases hx
  · cases hx
theorem put_tget {h:H}(hf:Full h.tr h.nx){b:Nat}(hb:b<h.nx)(v:B):(h.put b v).nx=h.nx∧(h.put b v).ro=h.ro∧Full (h.put b v).tr (h.put b v).nx∧∀ c,tget .no (h.put b v).tr c=if c=b then v else tget .no h.tr c:=by
  cases h with |mk t n r=>
  obtain⟨f1,f2⟩:=full_set v t n b hf (Nat.le_of_lt hb)
  rw [Nat.max_eq_left (show b+1≤n from hb)]at f1
  exact⟨rfl,rfl,f1,fun c=>f2 .no c⟩
theorem alive_lt {h:H}(hf:Full h.tr h.nx){b:Nat}(hb:tget .no h.tr b≠ .no):b<h.nx:=by
  rcases Nat.lt_or_ge b h.nx with g|g
  · exact g
  · exact absurd (full_out .no _ _ _ hf g) hb
theorem twin_case (hΓ:Γ.T=TT)(hT:TabOK P TT)(hB:TabB P TT)(hF:TabF P TT)(hk:CallOK P W0 k){K:E→H→R}{i:Nat}{r:List Nat}{lg:DL}{o:Oper}{gu:Option (Nat×Bool)}{env env1:E}{h h1:H}{dn:List Rec}
    (hlg:LgOK P W0 TT Γ.pu ops ms lf lg dn) (hl2:Lg2 Γ k TT lg dn env h) (hl:(twinF ops ms i r lg o env fun _=>K env1 h1).lf=some lf) (hno:i∉lg.ds) (hsl:okSlots ops ms lg.ds i (looks gu o)=true)
    (hrec:RecOK P W0 n0 nt TT Γ.pu Γ.pv ops dn ⟨i,o,gu,env,h,env1,h1,.op⟩) (hfm:∀ i,Fm Γ k ⟨i,o,gu,env,h,env1,h1,.op⟩) (hkk:kindOf TT Γ.pu o.op=.m) (ho:ops[i]? =some o):Out P W0 n0 nt TT Γ.pu Γ.pv ops ms lf K dn env h:=by
  replace hl:=tid_lf hl
  split at hl
  · rename_i j hj rest j' ds x hms hds hpx
    split at hl
    · rename_i yo hyo
      rcases bb_lf hl with ⟨hc,hl⟩|⟨_,hl⟩
      · rw [Bool.and_eq_true,Bool.and_eq_true,Bool.and_eq_true,Bool.and_eq_true]at hc
        obtain⟨⟨⟨⟨c1,c2⟩,c3⟩,c4⟩,c5⟩:=hc
        have c1:j=j':=beq c1
        have c4:ds.length+2=ops.length:=beq c4
        obtain⟨b,bo,bn,hvb,hl⟩:=oPt_lf hl
        obtain⟨d,eo,en,hvd,hl⟩:=oPt_lf hl
        rcases rec_lf hl with ⟨_,hK⟩|⟨hbd,hK⟩
        · exact bad_lf hK
        have hbd:b≠d:=fun e=>by rw [e,Nat.beq_refl]at hbd;cases hbd
        have hd0:=hl2.ds
        cases dn with
        |nil=>rw [hds]at hd0;cases hd0
        |cons xr dn'=>
          rw [hds,List.map_cons]at hd0
          have hxi:xr.i=j:=by rw [c1];exact(List.cons.inj hd0).1.symm
          have hdl:ds=dn'.map (·.i):=(List.cons.inj hd0).2
          obtain⟨x1,x2⟩:=hl2.hd xr rfl
          have hkx:kd TT Γ.pu xr=some .m:=by
            obtain⟨q,q1,q2,q3⟩:=hl2.ms (j,hj) (by rw [hms];exact .head _)
            rcases List.mem_cons.1 q1 with rfl|q1
            · exact q3
            · exfalso
              have hnd:=hl2.nd
              rw [List.map_cons,List.nodup_cons]at hnd
              exact hnd.1 (by rw [hxi,← (show q.i=j from q2)];exact List.mem_map_of_mem q1)
          have hax:xr.ac=.op∧kindOf TT Γ.pu xr.o.op=.m:=by
            unfold kd at hkx
            split at hkx
            · rename_i ha;exact⟨ha,Option.some.inj hkx⟩
            · cases hkx
          have hxo:=hlg.op xr (.head _)
          rw [hxi]at hxo
          rw [hxo,Option.bind_some]at hyo
          obtain⟨t1,v1,s1,s2,s3⟩:=plain_spec hyo
          obtain⟨t2,v2,s4,s5,s6⟩:=plain_spec hpx
          obtain⟨b1,q1,n1,B0,f1,f2,f3,f4,f5⟩:=hl2.fm xr (.head _) t1 yo v1 s1 s2 s3 hax.1
          obtain⟨b2,q2,n2,B1,g1,g2,g3,g4,g5⟩:=hfm i t2 x v2 s4 s5 s6 rfl
          have g3:env1=env:=g3
          have g4:h1=h.put b2 B1:=g4
          have g5:gu=none:=g5
          have hxe:xr.e=env:=by rw [← f3];exact x1
          rw [hxe]at f1 f2
          have hb1:b1=d:=by rw [hvd]at f1;cases f1;rfl
          have hb2:b2=b:=by
            have g1:val env x=.ref 1 b2 q2 n2:=g1
            rw [hvb]at g1;cases g1;rfl
          subst hb1;subst hb2
          have hh:h=xr.h.put b1 B0:=by rw [← x2];exact f4
          have hall:∀ q∈xr::dn',(kd TT Γ.pu q=some .l∨kd TT Γ.pu q=some .p)→anc ms i q.i=true∧anc ms j q.i=true:=fun q hq hk=>by
            obtain⟨f,hf,_⟩:=hlg.rs q hq hk
            have:=List.all_eq_true.1 c3 _ hf
            rw [Bool.and_eq_true]at this
            exact this
          refine .inr ⟨[],xr,⟨i,o,gu,env,h,env1,h1,.op⟩,env1,h1,hK,⟨rfl,rfl,rfl,rfl⟩,⟨hrec,trivial⟩,fun _ _ z hz=>by simp at hz,.nil,?_,.inr ⟨rfl,rfl⟩,fun q hq=>?_,fun q hq hk=>?_,?_⟩
          · rw [List.length_cons,List.length_nil]
            rw [hdl,List.length_map]at c4
            omega
          · have hq:q∈xr::dn':=hq.resolve_right (by simp)
            have hqo:=hlg.op q hq
            have hqd:q.i∈lg.ds:=(hlg.ds q.i).2 ⟨q,hq,rfl⟩
            refine⟨⟨fun e=>hno (by rw [← show q.i=i from e];exact hqd),fun d hd hl=>(okSlots_spec hsl hqo hd hl).1 hqd,fun d hd=>?_,fun e=>?_,fun b w1 w2 _ e=>?_,fun _ e=>?_,fun _ hr hf=>?_⟩,fun hne hm=>?_⟩
            · have hd:o.dst=some d:=hd
              rw [s5]at hd;cases hd
            · have e:some (kindOf TT Γ.pu o.op)=some Kd.n:=e
              rw [hkk]at e;cases e
            · cases e
            · have e:some (kindOf TT Γ.pu o.op)=some Kd.l∨some (kindOf TT Γ.pu o.op)=some Kd.p:=e
              rw [hkk]at e
              rcases e with e|e<;>cases e
            · have:=(hall q hq hr).1
              have hf:anc ms i q.i=false:=hf
              rw [this]at hf;cases hf
            · have:=hlg.ms q hq hm
              rw [hms]at this
              rcases List.mem_cons.1 this with e|e
              · exact absurd (by rw [hxi];exact(Prod.mk.inj e).1) hne
              · exact List.all_eq_true.1 c2 _ e
          · rw [hxi]
            have:=hall q (hq.resolve_right (by simp)) hk
            exact⟨this.2,this.1⟩
          · refine⟨fun e=>hno ?_,s2,s5,hax.2,hkk,hax.1,rfl,f3,hxe.symm,by show env1=xr.e;rw [g3,hxe],x2.symm,fun hm=>?_,fun hfull=>?_⟩
            · have e:xr.i=i:=e
              rw [← e,hds,c1.symm,hxi]
              first|exact .head _|simp
            · have hm:j∈deps o:=by rw [← hxi];exact hm
              rw [(hasN_iff _ _).2 hm]at c5
              cases c5
            · have l1:b1<xr.h.nx:=alive_lt hfull f2.1
              obtain⟨p1,p2,p3,p4⟩:=put_tget hfull l1 B0
              have l2:b2<xr.h.nx:=by
                have:=alive_lt (h:=h) (by rw [hh];exact p3) g2.1
                rw [hh,p1]at this;exact this
              obtain⟨r1,r2,r3,r4⟩:=put_tget hfull l2 B1
              obtain⟨t1,t2,t3,t4⟩:=put_tget (h:=xr.h.put b2 B1) r3 (by rw [r1];exact l1) B0
              obtain⟨u1,u2,u3,u4⟩:=put_tget (h:=xr.h.put b1 B0) p3 (by rw [p1];exact l2) B1
              refine⟨xr.h.put b2 B1,(xr.h.put b2 B1).put b1 B0,?_,?_,?_⟩
              · have:=dop_form (n0:=n0) (nt:=nt) hΓ hT hB hF hk g2 (h2:=xr.h) (by rw [hh,p4,if_neg hbd]) (by rw [hh,p2])
                show Dop P W0 n0 nt TT Γ.pu Γ.pv gu o xr.e xr.h xr.e _ .op
                rw [g5,hxe];exact this
              · have:=dop_form (n0:=n0) (nt:=nt) hΓ hT hB hF hk f2 (h2:=xr.h.put b2 B1) (by rw [r4,if_neg hbd.symm]) r2
                rw [f5,hxe];exact this
              · show Heq _ h1
                rw [g4,hh]
                refine⟨by rw [t1,r1,u1,p1],by rw [t2,r2,u2,p2],fun c=>?_,fun _=>u3⟩
                rw [t4,r4,u4,p4]
                by_cases e1:c=b1
                · rw [if_pos e1,if_neg (fun e2=>hbd (e2.symm.trans e1)),if_pos e1]
                · rw [if_neg e1,if_neg e1]
      · exact bad_lf hl
    · exact bad_lf hl
  · exact bad_lf hl
theorem drun_rec (hΓ:Γ.T=TT)(hT:TabOK P TT)(hB:TabB P TT)(hF:TabF P TT)(hk:CallOK P W0 k){K:E→H→R}:∀(l:List Nat) (lg:DL) (env:E) (h:H) (dn:List Rec),(drun Γ k ops ms l lg env h K).lf=some lf→LgOK P W0 TT Γ.pu ops ms lf lg dn→Lg2 Γ k TT lg dn env h→Out P W0 n0 nt TT Γ.pu Γ.pv ops ms lf K dn env h
  | [],lg,env,h,dn,hl,hlg,hl2=>by
    rcases bb_lf hl with ⟨hb,hl⟩|⟨_,hl⟩
    · exact .inl ⟨[],env,h,hl,⟨rfl,rfl⟩,trivial,fun _ _ y hy=>by simp at hy,.nil,by rw [← hlg.len];exact beq hb⟩
    · exact bad_lf hl
  |i::r,lg,env,h,dn,hl,hlg,hl2=>by
    unfold drun at hl
    split at hl
    · exact bad_lf (tid_lf hl)
    · rename_i o ho
      split at hl
      · exact bad_lf (tid_lf hl)
      · rename_i gu hg
        rcases bb_lf hl with ⟨hb,hl⟩|⟨_,hl⟩
        · rw [Bool.and_eq_true,Bool.and_eq_true,Bool.and_eq_true]at hb
          obtain⟨⟨⟨b1,b2⟩,b3⟩,b4⟩:=hb
          have hno:i∉lg.ds:=fun hm=>by rw [(hasN_iff _ _).2 hm]at b1;cases b1
          have hsl:okSlots ops ms lg.ds i (looks gu o)=true:=b4
          obtain⟨env1,h1,ac,hl,hd,hfm⟩:=dop_soundF (n0:=n0) (nt:=nt) hΓ hT hB hF hk hg hl
          generalize hy:(⟨i,o,gu,env,h,env1,h1,ac⟩:Rec)=y
          have hrec:RecOK P W0 n0 nt TT Γ.pu Γ.pv ops dn y:=by
            subst hy
            refine⟨ho,hg,hd,fun k hk=>(hlg.ds k).1 ((hasN_iff _ _).1 (List.all_eq_true.1 b3 k hk)),fun g u e=>?_⟩
            have e:gu=some (g,u):=e
            subst e
            exact hlg.dd g ((hasN_iff _ _).1 b2)
          have hfin:∀ lg',(drun Γ k ops ms r lg' env1 h1 K).lf=some lf→LgOK P W0 TT Γ.pu ops ms lf lg' (y::dn)→(∀ x∈dn,Pair P W0 TT Γ.pu ms x y)→lg'.ds=i::lg.ds→(lg'.ms=lg.ms∨(lg'.ms=(i,h)::lg.ms∧kd TT Γ.pu y=some .m))→
              Out P W0 n0 nt TT Γ.pu Γ.pv ops ms lf K dn env h:=fun lg' hl' hlg' hp hds hms=>by
            have yi:y.i=i:=by subst hy;rfl
            have hl2':Lg2 Γ k TT lg' (y::dn) env1 h1:=by
              refine⟨fun q hq=>?_,fun q hq=>?_,by rw [hds,hl2.ds,List.map_cons,yi],?_,fun p hp'=>?_⟩
              · rcases List.mem_cons.1 hq with rfl|hq
                · subst hy;exact hfm i
                · exact hl2.fm q hq
              · have hq:some y=some q:=hq
                cases hq
                subst hy;exact⟨rfl,rfl⟩
              · rw [List.map_cons,List.nodup_cons,yi,← hl2.ds]
                exact⟨hno,hl2.ds ▸ hl2.nd⟩
              · rcases hms with hms|⟨hms,hkm⟩
                · rw [hms]at hp'
                  obtain⟨q,q1,q2⟩:=hl2.ms p hp'
                  exact⟨q,.tail _ q1,q2⟩
                · rw [hms]at hp'
                  rcases List.mem_cons.1 hp' with rfl|hp'
                  · exact⟨y,.head _,yi,hkm⟩
                  · obtain⟨q,q1,q2⟩:=hl2.ms p hp'
                    exact⟨q,.tail _ q1,q2⟩
            rcases drun_rec hΓ hT hB hF hk r lg' env1 h1 (y::dn) hl' hlg' hl2' with ⟨rs,env',h',q1,q2,q3,q4,q5,q6⟩|⟨rs,x,z,env',h',q1,q2,q3,q4,q5,q6,q7,q8,q9,q10⟩
            · refine .inl ⟨y::rs,env',h',q1,by subst hy;exact⟨rfl,rfl,q2⟩,⟨hrec,q3⟩,fun x hx z hz=>?_,.cons (q4 y (by simp)) q5,by rw [List.length_cons]at q6 ⊢;omega⟩
              rcases List.mem_cons.1 hz with rfl|hz
              · exact hp x hx
              · exact q4 x (by simp [hx]) z hz
            · have sw:∀ q,(q∈dn∨q∈y::rs)→(q∈y::dn∨q∈rs):=fun q hq=>by
                rcases hq with hq|hq
                · exact .inl (.tail _ hq)
                · rcases List.mem_cons.1 hq with rfl|hq
                  · exact .inl (.head _)
                  · exact .inr hq
              refine .inr ⟨y::rs,x,z,env',h',q1,by subst hy;exact⟨rfl,rfl,q2⟩,⟨hrec,q3⟩,fun x hx z hz=>?_,.cons (q4 y (by simp)) q5,by rw [List.length_cons]at q6 ⊢;omega,?_,fun q hq=>q8 q (sw q hq),fun q hq=>q9 q (sw q hq),q10⟩
              · rcases List.mem_cons.1 hz with rfl|hz
                · exact hp x hx
                · exact q4 x (by simp [hx]) z hz
              · rcases q7 with q7|⟨rfl,q7⟩
                · refine .inl ?_
                  cases rs with
                  |nil=>cases q7
                  |cons u us=>rw [List.getLast?_cons_cons];exact q7
                · have q7:some y=some x:=q7
                  cases q7
                  exact .inl rfl
          have hsl':okSlots ops ms lg.ds y.i (looks y.gu y.o)=true:=by subst hy;exact hsl
          have hno':y.i∉lg.ds:=by subst hy;exact hno
          have hoy:ops[y.i]? =some y.o:=by subst hy;exact ho
          have hrr:∀ h2 r',(rerun Γ k gu o env (dval o env1) h2 r').lf=some lf→r'.lf=some lf∧Again P W0 TT Γ.pu y h2:=fun h2 r' hl=>by
            subst hy
            exact rerun_lf hΓ hT hB hF hk hl
          cases ac with
          |no=>
            have hkd:kd TT Γ.pu y=none:=by subst hy;rfl
            have hac:acc y=none:=by subst hy;rfl
            refine hfin _ hl (lg_of hlg hsl' hoy (by subst hy;rfl) (by subst hy;rfl) (.inl ⟨rfl,by rw [hkd];simp⟩) (.inl ⟨rfl,by rw [hkd];simp,by rw [hkd];simp⟩) (.inl ⟨rfl,by rw [hkd];simp,by rw [hkd];simp⟩) (.inl ⟨rfl,hac⟩)) (pair_of hlg hsl' hno' hoy ?_ ?_ ?_ ?_ ?_) rfl (.inl rfl)
            · rw [hkd];simp
            · rw [hkd];simp
            · rw [hac];simp
            · rw [hkd];simp
            · rw [hkd];simp
          |rd b=>
            have hkd:kd TT Γ.pu y=none:=by subst hy;rfl
            have hac:acc y=some (b,false):=by subst hy;rfl
            rcases bb_lf hl with ⟨hb,hl⟩|⟨_,hl⟩
            · refine hfin _ hl (lg_of hlg hsl' hoy (by subst hy;rfl) (by subst hy;rfl) (.inl ⟨rfl,by rw [hkd];simp⟩) (.inl ⟨rfl,by rw [hkd];simp,by rw [hkd];simp⟩) (.inl ⟨rfl,by rw [hkd];simp,by rw [hkd];simp⟩) (.inr ⟨b,false,hac,by subst hy;rfl⟩)) (pair_of hlg hsl' hno' hoy ?_ ?_ ?_ ?_ ?_) rfl (.inl rfl)
              · rw [hkd];simp
              · rw [hkd];simp
              · intro b' w' e;rw [hac]at e;cases e;subst hy;exact hb
              · rw [hkd];simp
              · rw [hkd];simp
            · exact bad_lf hl
          |wr b=>
            have hkd:kd TT Γ.pu y=none:=by subst hy;rfl
            have hac:acc y=some (b,true):=by subst hy;rfl
            rcases bb_lf hl with ⟨hb,hl⟩|⟨_,hl⟩
            · refine hfin _ hl (lg_of hlg hsl' hoy (by subst hy;rfl) (by subst hy;rfl) (.inl ⟨rfl,by rw [hkd];simp⟩) (.inl ⟨rfl,by rw [hkd];simp,by rw [hkd];simp⟩) (.inl ⟨rfl,by rw [hkd];simp,by rw [hkd];simp⟩) (.inr ⟨b,true,hac,by subst hy;rfl⟩)) (pair_of hlg hsl' hno' hoy ?_ ?_ ?_ ?_ ?_) rfl (.inl rfl)
              · rw [hkd];simp
              · rw [hkd];simp
              · intro b' w' e;rw [hac]at e;cases e;subst hy;exact hb
              · rw [hkd];simp
              · rw [hkd];simp
            · exact bad_lf hl
          |op=>
            have hac:acc y=none:=by subst hy;rfl
            have hkd0:kd TT Γ.pu y=some (kindOf TT Γ.pu o.op):=by subst hy;rfl
            simp only at hl
            rw [hΓ]at hl
            cases hkk:kindOf TT Γ.pu o.op with
            |v=>
              rw [hkk]at hl hkd0
              refine hfin _ hl (lg_of hlg hsl' hoy (by subst hy;rfl) (by subst hy;rfl) (.inl ⟨rfl,by rw [hkd0];simp⟩) (.inl ⟨rfl,by rw [hkd0];simp,by rw [hkd0];simp⟩) (.inl ⟨rfl,by rw [hkd0];simp,by rw [hkd0];simp⟩) (.inl ⟨rfl,hac⟩)) (pair_of hlg hsl' hno' hoy ?_ ?_ ?_ ?_ ?_) rfl (.inl rfl)
              · rw [hkd0];simp
              · rw [hkd0];simp
              · rw [hac];simp
              · rw [hkd0];simp
              · rw [hkd0];simp
            |l=>
              rw [hkk]at hl hkd0
              obtain⟨hl,hag⟩:=again1_lf hrr _ hl
              refine hfin _ hl (lg_of hlg hsl' hoy (by subst hy;rfl) (by subst hy;rfl) (.inl ⟨rfl,by rw [hkd0];simp⟩) (.inl ⟨rfl,by rw [hkd0];simp,by rw [hkd0];simp⟩) (.inr ⟨_,by subst hy;rfl,hrr⟩) (.inl ⟨rfl,hac⟩)) (pair_of hlg hsl' hno' hoy ?_ ?_ ?_ ?_ ?_) rfl (.inl rfl)
              · rw [hkd0];simp
              · rw [hkd0];simp
              · rw [hac];simp
              · intro _ p hp hf;exact hag p hp (by subst hy;exact hf)
              · rw [hkd0];simp
            |p=>
              rw [hkk]at hl hkd0
              obtain⟨hl,hag⟩:=again1_lf hrr _ hl
              refine hfin _ hl (lg_of hlg hsl' hoy (by subst hy;rfl) (by subst hy;rfl) (.inl ⟨rfl,by rw [hkd0];simp⟩) (.inr (by subst hy;rfl)) (.inr ⟨_,by subst hy;rfl,hrr⟩) (.inl ⟨rfl,hac⟩)) (pair_of hlg hsl' hno' hoy ?_ ?_ ?_ ?_ ?_) rfl (.inl rfl)
              · rw [hkd0];simp
              · rw [hkd0];simp
              · rw [hac];simp
              · intro _ p hp hf;exact hag p hp (by subst hy;exact hf)
              · rw [hkd0];simp
            |n=>
              rw [hkk]at hl hkd0
              rcases bb_lf hl with ⟨hb,hl⟩|⟨_,hl⟩
              · refine hfin _ hl (lg_of hlg hsl' hoy (by subst hy;rfl) (by subst hy;rfl) (.inl ⟨rfl,by rw [hkd0];simp⟩) (.inl ⟨rfl,by rw [hkd0];simp,by rw [hkd0];simp⟩) (.inl ⟨rfl,by rw [hkd0];simp,by rw [hkd0];simp⟩) (.inl ⟨rfl,hac⟩)) (pair_of hlg hsl' hno' hoy ?_ ?_ ?_ ?_ ?_) rfl (.inl rfl)
                · rw [hkd0];simp
                · intro _ j hj;subst hy;exact List.all_eq_true.1 hb j hj
                · rw [hac];simp
                · rw [hkd0];simp
                · rw [hkd0];simp
              · exact bad_lf hl
            |m=>
              rw [hkk]at hl hkd0
              rcases bb_lf hl with ⟨hb,hl⟩|⟨_,hl⟩
              · obtain⟨hl,hag⟩:=again2_lf _ hlg.rsr hl
                refine hfin _ hl (lg_of hlg hsl' hoy (by subst hy;rfl) (by subst hy;rfl) (.inr (by subst hy;rfl)) (.inr (by subst hy;rfl)) (.inl ⟨rfl,by rw [hkd0];simp,by rw [hkd0];simp⟩) (.inl ⟨rfl,hac⟩)) (pair_of hlg hsl' hno' hoy ?_ ?_ ?_ ?_ ?_) rfl (.inr ⟨rfl,hkd0⟩)
                · intro _ p hp;subst hy;exact List.all_eq_true.1 hb p hp
                · rw [hkd0];simp
                · rw [hac];simp
                · rw [hkd0];simp
                · intro _ p hp hf;subst hy;exact hag p hp hf
              · exact twin_case hΓ hT hB hF hk hlg hl2 hl hno hsl (by subst hy;exact hrec) hfm hkk ho
        · exact bad_lf hl
end
end Go.X1

set_option maxRecDepth 100000
namespace Go.X1
variable [Nu]
open Go.Region (ready binds)
def fstF (Q:Nat→Bool):Nat→Nat→Nat
  |p,0=>p
  |p,f+1=>match Q p with |true=>p|false=>fstF Q (p+1) f
theorem fstF_spec (Q:Nat→Bool):∀ f p,p≤fstF Q p f∧fstF Q p f≤p+f∧(∀ x,p≤x→x<fstF Q p f→Q x=false)∧(fstF Q p f<p+f→Q (fstF Q p f)=true)
  |0,p=>⟨Nat.le_refl _,Nat.le_refl _,fun x h1 h2=>by have h2:x<p:=h2;omega,fun h=>by have h:p<p+0:=h;omega⟩
  |f+1,p=>by
    cases hq:Q p with
    |true=>
      have e:fstF Q p (f+1)=p:=by rw [fstF,hq]
      rw [e]
      exact⟨Nat.le_refl _,by omega,fun x h1 h2=>by omega,fun _=>hq⟩
    |false=>
      have e:fstF Q p (f+1)=fstF Q (p+1) f:=by rw [fstF,hq]
      rw [e]
      obtain⟨h1,h2,h3,h4⟩:=fstF_spec Q f (p+1)
      refine⟨by omega,by omega,fun x g1 g2=>?_,fun h=>h4 (by omega)⟩
      by_cases hx:x=p
      · subst hx;exact hq
      · exact h3 x (by omega) g2
theorem nodup_bound:∀(n:Nat) (l:List Nat),l.Nodup→(∀ x∈l,x<n)→l.length≤n
  |0,l,_,h=>by
    cases l with
    |nil=>simp
    |cons x l=>exact absurd (h x (by simp)) (Nat.not_lt_zero _)
  |n+1,l,hn,h=>by
    have h1:=nodup_bound n (l.erase n) (hn.erase n) fun x hx=>by
      have:=(hn.mem_erase_iff).1 hx
      have:=h x this.2
      omega
    have:=List.length_erase (a:=n) (l:=l)
    split at this<;>omega
theorem nodup_all {n:Nat}{l:List Nat}(hn:l.Nodup)(h:∀ x∈l,x<n)(hl:l.length=n){i:Nat}(hi:i<n):i∈l:=by
  apply Classical.byContradiction
  intro hm
  have:=nodup_bound n (i::l) (List.nodup_cons.2 ⟨hm,hn⟩) fun x hx=>by
    rcases List.mem_cons.1 hx with rfl|hx
    · exact hi
    · exact h x hx
  simp at this
  omega
structure Can (P:Program) (W0:World) (n0 nt:Nat) (T:List TI) (pu pv:List Nat) (ops:List Oper) (R:Nat→Rec) (Es:Nat→E) (Hs:Nat→H):Prop where
  e:∀ p,p<ops.length→(R p).e=Es p∧(R p).h=Hs p∧(R p).e'=Es (p+1)∧(R p).h'=Hs (p+1)
  op:∀ p,p<ops.length→ops[(R p).i]? =some (R p).o
  gu:∀ p,p<ops.length→guardOf ops (R p).o=some (R p).gu
  dop:∀ p,p<ops.length→Dop P W0 n0 nt T pu pv (R p).gu (R p).o (Es p) (Hs p) (Es (p+1)) (Hs (p+1)) (R p).ac
  deps:∀ p,p<ops.length→∀ k∈deps (R p).o,∃ p',p'<p∧(R p').i=k
  g:∀ p,p<ops.length→∀ g u,(R p).gu=some (g,u)→∃ p',p'<p∧(R p').o.dst=some g
  pair:∀ p p',p<p'→p'<ops.length→PairX P W0 T pu (masks ops []) (R p) (R p')
  mm:∀ p p',p<p'→p'<ops.length→kd T pu (R p)=some .m→kd T pu (R p')=some .m→anc (masks ops []) (R p').i (R p).i=true∨(p+2=ops.length∧p'+1=ops.length)
  np:NoPg (Es 0)
  nd:nodupD nt ops=true
theorem nodupD_spec {nt:Nat}:∀{ops:List Oper},nodupD nt ops=true→∀(i:Nat) (o:Oper) (d:Nat),ops[i]? =some o→o.dst=some d→d<nt∧∀(j:Nat) (o':Oper),ops[j]? =some o'→o'.dst=some d→j=i
  | [],_,i,o,d,h,_=>by simp at h
  |x::l,hn,i,o,d,h,hd=>by
    obtain⟨h1,h2⟩:=nodupD_cons hn
    cases i with
    |zero=>
      simp at h
      subst h
      refine⟨(h1 d hd).1,fun j o' hj hd'=>?_⟩
      cases j with
      |zero=>rfl
      |succ j=>
        exact absurd hd' ((h1 d hd).2 o' (List.mem_of_getElem? (by simpa using hj)))
    |succ i=>
      obtain⟨q1,q2⟩:=nodupD_spec h2 i o d (by simpa using h) hd
      refine⟨q1,fun j o' hj hd'=>?_⟩
      cases j with
      |zero=>
        simp at hj
        subst hj
        exact absurd hd ((h1 d hd').2 o (List.mem_of_getElem? (by simpa using h)))
      |succ j=>rw [q2 j o' (by simpa using hj) hd']
def wrt (r:Rec):Lc→Bool
  |.s t=>match r.o.dst with |some d=>Nat.beq d t|none=>false
  |.b n=>match wrB r.ac with |some b=>Nat.beq b n|none=>false
theorem wrt_s {r:Rec}{t:Nat}:wrt r (.s t)=true↔r.o.dst=some t:=by
  unfold wrt
  cases h:r.o.dst with
  |none=>simp
  |some d=>simp
theorem wrt_b {r:Rec}{b:Nat}:wrt r (.b b)=true↔r.ac=.wr b:=by
  unfold wrt
  cases h:r.ac<;>simp [wrB]
def AG (l:Lc)(e1 e2:E):Prop:=match l with
  |.s t=>eget e1.tm t=eget e2.tm t
  |.b b=>bget e1.pb b=bget e2.pb b∧∀ i,cget e1.cl b i=cget e2.cl b i
theorem AG.refl (l:Lc)(e:E):AG l e e:=by cases l;exact rfl;exact⟨rfl,fun _=>rfl⟩
theorem AG.trans {l:Lc}{e1 e2 e3:E}(h:AG l e1 e2)(g:AG l e2 e3):AG l e1 e3:=by
  cases l
  · exact Eq.trans h g
  · exact⟨h.1.trans g.1,fun i=>(h.2 i).trans (g.2 i)⟩
section
variable {P:Program} {TT:List TI} {W0:World} {n0 nt:Nat} {pu pv:List Nat} {ops:List Oper} {R:Nat→Rec} {Es:Nat→E} {Hs:Nat→H}
theorem Can.uniq (C:Can P W0 n0 nt TT pu pv ops R Es Hs){p p':Nat}(hp:p<ops.length)(hp':p'<ops.length){d:Nat}(h:(R p).o.dst=some d)(h':(R p').o.dst=some d):p'=p:=by
  obtain⟨_,q⟩:=nodupD_spec C.nd _ _ d (C.op p hp) h
  have e:=q _ _ (C.op p' hp') h'
  rcases Nat.lt_trichotomy p p' with hl|hl|hl
  · exact absurd e.symm (C.pair p p' hl hp').ne
  · exact hl.symm
  · exact absurd e (C.pair p' p hl hp).ne
theorem Can.quiet (C:Can P W0 n0 nt TT pu pv ops R Es Hs)(l:Lc)(x:Nat):∀ d,x+d≤ops.length→(∀ p,x≤p→p<x+d→wrt (R p) l=false)→AG l (Es (x+d)) (Es x)
  |0,_,_=>AG.refl _ _
  |d+1,hd,hw=>by
    have ih:=C.quiet l x d (by omega) fun p h1 h2=>hw p h1 (by omega)
    have hc:=(C.dop (x+d) (by omega)).1
    have hn:=hw (x+d) (by omega) (by omega)
    refine AG.trans ?_ ih
    cases l with
    |s t=>exact hc.slot t fun e=>by rw [wrt_s.2 e]at hn;cases hn
    |b b=>exact hc.base b fun e=>by rw [wrt_b.2 e]at hn;cases hn
theorem Can.pgc (C:Can P W0 n0 nt TT pu pv ops R Es Hs){t g b q:Nat}{u:Bool}:∀ r,r≤ops.length→eget (Es r).tm t=.pg g u b q→∃ p,p<r∧(R p).o.dst=some t∧(R p).gu=some (g,u)
  |0,_,e=>absurd e (C.np t g u b q)
  |r+1,hr,e=>by
    have hc:=(C.dop r (by omega)).1
    by_cases ht:(R r).o.dst=some t
    · rcases hc.pg t g u b q e with h|h
      · obtain⟨p,p1,p2,p3⟩:=C.pgc r (by omega) h
        exact⟨p,by omega,p2,p3⟩
      · exact⟨r,by omega,ht,h⟩
    · rw [hc.slot t ht]at e
      obtain⟨p,p1,p2,p3⟩:=C.pgc r (by omega) e
      exact⟨p,by omega,p2,p3⟩
structure LInv (ops:List Oper) (L:Array Bool):Prop where
  size:L.size=ops.length
  closed:∀ i o,ops[i]? =some o→L.getD i false=true→∀ k∈deps o,L.getD k false=true
def lb (R:Nat→Rec)(L:Array Bool)(p:Nat):Bool:=L.getD (R p).i false
theorem Can.li (C:Can P W0 n0 nt TT pu pv ops R Es Hs){p:Nat}(hp:p<ops.length):(R p).i<ops.length:=by
  have:=C.op p hp
  rcases Nat.lt_or_ge (R p).i ops.length with h|h
  · exact h
  · rw [List.getElem?_eq_none h]at this;cases this
theorem Can.inj (C:Can P W0 n0 nt TT pu pv ops R Es Hs){p p':Nat}(hp:p<ops.length)(hp':p'<ops.length)(e:(R p).i=(R p').i):p=p':=by
  rcases Nat.lt_trichotomy p p' with hl|hl|hl
  · exact absurd e (C.pair p p' hl hp').ne
  · exact hl
  · exact absurd e.symm (C.pair p' p hl hp).ne
theorem Can.surj (C:Can P W0 n0 nt TT pu pv ops R Es Hs){i:Nat}(hi:i<ops.length):∃ p,p<ops.length∧(R p).i=i:=by
  have h:=nodup_all (n:=ops.length) (l:=(List.range ops.length).map fun p=>(R p).i) (List.nodup_iff_pairwise_ne.2 (by
    rw [List.pairwise_map]
    refine List.Pairwise.imp_of_mem (fun {a b} ha hb hab e=>?_) List.pairwise_lt_range
    have:=C.inj (List.mem_range.1 ha) (List.mem_range.1 hb) e
    omega)) (fun x hx=>by
      obtain⟨p,h1,rfl⟩:=List.mem_map.1 hx
      exact C.li (List.mem_range.1 h1)) (by simp) hi
  obtain⟨p,h1,h2⟩:=List.mem_map.1 h
  exact⟨p,List.mem_range.1 h1,h2⟩
variable {L:Array Bool}
theorem Can.anc_lb (C:Can P W0 n0 nt TT pu pv ops R Es Hs)(hL:LInv ops L){p p':Nat}(hp:p<ops.length)(h:lb R L p=true∨∀ k∈Go.X1.deps (R p).o,L.getD k false=true)(ha:anc (masks ops []) (R p).i (R p').i=true):lb R L p'=true:=
  anc_listed (L:=fun i=>L.getD i false=true) hL.closed _ _ _ (Nat.lt_succ_self _) (C.op p hp) (h.elim (fun h=>hL.closed _ _ (C.op p hp) h) id) _ ha
def RW (R:Nat→Rec)(n:Nat)(L:Array Bool)(l:Lc):Nat:=fstF (fun p=>wrt (R p) l&&!lb R L p) 0 n
def VL (R:Nat→Rec)(Es:Nat→E)(n:Nat)(L:Array Bool)(l:Lc):E:=Es (RW R n L l)
theorem rw_spec (R:Nat→Rec)(n:Nat)(L:Array Bool)(l:Lc):RW R n L l≤n∧(∀ p,p<RW R n L l→wrt (R p) l=true→lb R L p=true)∧(RW R n L l<n→wrt (R (RW R n L l)) l=true∧lb R L (RW R n L l)=false):=by
  obtain⟨_,h2,h3,h4⟩:=fstF_spec (fun p=>wrt (R p) l&&!lb R L p) n 0
  refine⟨by rw [Nat.zero_add]at h2;exact h2,fun p hp hw=>?_,fun hlt=>?_⟩
  · have:=h3 p (Nat.zero_le _) hp
    rw [hw]at this
    simpa using this
  · have:=h4 (by rw [Nat.zero_add];exact hlt)
    rw [Bool.and_eq_true]at this
    refine⟨this.1,?_⟩
    have h:=this.2
    rw [Bool.not_eq_true']at h
    exact h
theorem Can.at (C:Can P W0 n0 nt TT pu pv ops R Es Hs)(l:Lc){p:Nat}(hp:p≤ops.length)(h1:∀ p',p'<p→wrt (R p') l=true→lb R L p'=true)(h2:∀ p',p≤p'→p'<ops.length→wrt (R p') l=true→lb R L p'=false):AG l (VL R Es ops.length L l) (Es p):=by
  obtain⟨r1,r2,r3⟩:=rw_spec R ops.length L l
  have hle:p≤RW R ops.length L l:=by
    rcases Nat.lt_or_ge (RW R ops.length L l) p with h|h
    · obtain⟨q1,q2⟩:=r3 (by omega)
      rw [h1 _ h q1]at q2;cases q2
    · exact h
  unfold VL
  have:=C.quiet l p (RW R ops.length L l-p) (by omega) fun p' g1 g2=>by
    cases hw:wrt (R p') l
    · rfl
    · have a1:=r2 p' (by omega) hw
      rw [h2 p' g1 (by omega) hw]at a1;cases a1
  rwa [show p+(RW R ops.length L l-p)=RW R ops.length L l by omega]at this
theorem Can.la (C:Can P W0 n0 nt TT pu pv ops R Es Hs)(hL:LInv ops L){p:Nat}(hp:p<ops.length)(hno:lb R L p=false)(hd:∀ k∈Go.X1.deps (R p).o,L.getD k false=true):LA (VL R Es ops.length L) (Es p) (looks (R p).gu (R p).o):=fun t ht=>by
  refine C.at (.s t) (Nat.le_of_lt hp) (fun p' h1 hw=>?_) fun p' h1 h2 hw=>?_
  · exact C.anc_lb hL hp (.inr hd) ((C.pair p' p h1 hp).s1 t (wrt_s.1 hw) ht)
  · cases hb:lb R L p' with
    |false=>rfl
    |true=>
      by_cases e:p=p'
      · subst e;rw [hno]at hb;cases hb
      · have:=C.anc_lb hL h2 (.inl hb) ((C.pair p p' (by omega) h2).s2 t (wrt_s.1 hw) ht)
        rw [hno]at this;cases this
theorem acc_wr {r:Rec}{b:Nat}(h:r.ac=.wr b):acc r=some (b,true):=by unfold acc;rw [h]
theorem acc_rd {r:Rec}{b:Nat}(h:r.ac=.rd b):acc r=some (b,false):=by unfold acc;rw [h]
theorem Can.ba (C:Can P W0 n0 nt TT pu pv ops R Es Hs)(hL:LInv ops L){p:Nat}(hp:p<ops.length)(hno:lb R L p=false)(hd:∀ k∈Go.X1.deps (R p).o,L.getD k false=true){b:Nat}{w:Bool}(hb:acc (R p)=some (b,w)):BA (VL R Es ops.length L) (Es p) b:=by
  refine C.at (.b b) (Nat.le_of_lt hp) (fun p' h1 hw=>?_) fun p' h1 h2 hw=>?_
  · exact C.anc_lb hL hp (.inr hd) ((C.pair p' p h1 hp).ac b true w (acc_wr (wrt_b.1 hw)) hb (.inl rfl))
  · cases hbb:lb R L p' with
    |false=>rfl
    |true=>
      by_cases e:p=p'
      · subst e;rw [hno]at hbb;cases hbb
      · have:=C.anc_lb hL h2 (.inl hbb) ((C.pair p p' (by omega) h2).ac b w true hb (acc_wr (wrt_b.1 hw)) (.inr rfl))
        rw [hno]at this;cases this
theorem Can.pgi (C:Can P W0 n0 nt TT pu pv ops R Es Hs)(hL:LInv ops L){p:Nat}(hp:p<ops.length)(hno:lb R L p=false):∀ t g u b q,eget (VL R Es ops.length L (.s t)).tm t=.pg g u b q→(R p).o.dst≠some g:=fun t g u b q e hg=>by
  obtain⟨r1,r2,r3⟩:=rw_spec R ops.length L (.s t)
  obtain⟨p',p1,p2,p3⟩:=C.pgc _ r1 e
  have hl:=r2 p' p1 (wrt_s.2 p2)
  obtain⟨p2',q1,q2⟩:=C.g p' (by omega) g u p3
  have:=C.uniq hp (by omega:p2'<ops.length) hg q2
  subst this
  have:=C.anc_lb hL (by omega:p'<ops.length) (.inl hl) ((C.pair p2' p' q1 (by omega)).s1 g q2 (by rw [p3];simp [looks]))
  rw [hno]at this;cases this
theorem getD_set (L:Array Bool)(i j:Nat)(hi:i<L.size):(L.setIfInBounds i true).getD j false=if i=j then true else L.getD j false:=by
  by_cases h:i=j
  · subst h;simp [hi]
  · simp only [Array.getD_eq_getD_getElem?]
    rw [Array.getElem?_setIfInBounds_ne h,if_neg h]
theorem Can.lb_set (C:Can P W0 n0 nt TT pu pv ops R Es Hs)(hL:LInv ops L){p p':Nat}(hp:p<ops.length)(hp':p'<ops.length):lb R (L.setIfInBounds (R p).i true) p'=if p=p' then true else lb R L p':=by
  unfold lb
  rw [getD_set L _ _ (by rw [hL.size];exact C.li hp)]
  by_cases e:p=p'
  · subst e;rw [if_pos rfl,if_pos rfl]
  · rw [if_neg e,if_neg fun h=>e (C.inj hp hp' h)]
theorem LInv.set (hL:LInv ops L){i:Nat}{o:Oper}(ho:ops[i]? =some o)(hi:i<ops.length)(hd:∀ k∈deps o,L.getD k false=true):LInv ops (L.setIfInBounds i true) where
  size:=by simp [hL.size]
  closed j o' ho' h k hk:=by
    rw [getD_set L _ _ (by rw [hL.size];exact hi)]at h ⊢
    by_cases e:i=k
    · rw [if_pos e]
    · rw [if_neg e]
      by_cases e2:i=j
      · subst e2
        rw [ho]at ho'
        cases ho'
        exact hd k hk
      · rw [if_neg e2]at h
        exact hL.closed j o' ho' h k hk
theorem fstF_congr {Q Q':Nat→Bool}:∀ f p,(∀ x,p≤x→x<p+f→Q x=Q' x)→fstF Q p f=fstF Q' p f
  |0,_,_=>rfl
  |f+1,p,h=>by
    rw [fstF,fstF,h p (Nat.le_refl _) (by omega),fstF_congr f (p+1) fun x h1 h2=>h x (by omega) (by omega)]
theorem Can.sv_next (C:Can P W0 n0 nt TT pu pv ops R Es Hs)(hL:LInv ops L){p:Nat}(hp:p<ops.length)(hno:lb R L p=false)(hd:∀ k∈Go.X1.deps (R p).o,L.getD k false=true){α:Al}{β:Be}{w:World}{a:Act}
    (hs:SV n0 nt (upd (VL R Es ops.length L) (R p).o.dst (wrB (R p).ac) (Es (p+1))) α β w a):SV n0 nt (VL R Es ops.length (L.setIfInBounds (R p).i true)) α β w a:=by
  have key:∀ l,AG l (VL R Es ops.length (L.setIfInBounds (R p).i true) l) (upd (VL R Es ops.length L) (R p).o.dst (wrB (R p).ac) (Es (p+1)) l):=fun l=>by
    have hu:upd (VL R Es ops.length L) (R p).o.dst (wrB (R p).ac) (Es (p+1)) l=if wrt (R p) l=true then Es (p+1)else VL R Es ops.length L l:=by
      cases l with
      |s t=>
        by_cases h:(R p).o.dst=some t
        · rw [if_pos (wrt_s.2 h)];exact if_pos h
        · rw [if_neg fun e=>h (wrt_s.1 e)];exact if_neg h
      |b b=>
        have hwb:wrB (R p).ac=some b↔(R p).ac=.wr b:=by cases (R p).ac<;>simp [wrB]
        by_cases h:(R p).ac=.wr b
        · rw [if_pos (wrt_b.2 h)];exact if_pos (hwb.2 h)
        · rw [if_neg fun e=>h (wrt_b.1 e)];exact if_neg fun e=>h (hwb.1 e)
    rw [hu]
    by_cases hw:wrt (R p) l=true
    · rw [if_pos hw]
      refine C.at l (by omega) (fun p' h1 hw'=>?_) fun p' h1 h2 hw'=>?_
      · rw [C.lb_set hL hp (by omega)]
        by_cases e:p=p'
        · rw [if_pos e]
        · rw [if_neg e]
          cases l with
          |s t=>exact absurd (C.uniq hp (by omega) (wrt_s.1 hw) (wrt_s.1 hw')).symm e
          |b b=>
            exact C.anc_lb hL hp (.inr hd) ((C.pair p' p (by omega) hp).ac b true true (acc_wr (wrt_b.1 hw')) (acc_wr (wrt_b.1 hw)) (.inl rfl))
      · rw [C.lb_set hL hp h2,if_neg (by omega)]
        cases hb:lb R L p' with
        |false=>rfl
        |true=>
          exfalso
          cases l with
          |s t=>have:=C.uniq hp h2 (wrt_s.1 hw) (wrt_s.1 hw');omega
          |b b=>
            have:=C.anc_lb hL h2 (.inl hb) ((C.pair p p' (by omega) h2).ac b true true (acc_wr (wrt_b.1 hw)) (acc_wr (wrt_b.1 hw')) (.inl rfl))
            rw [hno]at this;cases this
    · rw [if_neg hw]
      have:RW R ops.length (L.setIfInBounds (R p).i true) l=RW R ops.length L l:=by
        unfold RW
        refine fstF_congr _ _ fun x _ hx=>?_
        rw [C.lb_set hL hp (by omega)]
        by_cases e:p=x
        · subst e
          have:wrt (R p) l=false:=by cases h:wrt (R p) l;rfl;exact absurd h hw
          rw [this];rfl
        · rw [if_neg e]
      unfold VL
      rw [this]
      exact AG.refl _ _
  exact hs.congr (fun t=>key (.s t)) fun b=>key (.b b)
end
end Go.X1

set_option maxRecDepth 100000
namespace Go.X1
variable [Nu]
open Go.Region (ready binds)
section
variable {P:Program} {TT:List TI} {W0:World} {n0 nt:Nat} {pu pv:List Nat} {ops:List Oper} {R:Nat→Rec} {Es:Nat→E} {Hs:Nat→H} {L:Array Bool}
theorem new_nx (h:H)(v:B):(h.new v).nx=h.nx+1:=by cases h;rfl
theorem new_ro (h:H)(v:B):(h.new v).ro=h.ro:=by cases h;rfl
theorem new_full {h:H}(hf:Full h.tr h.nx)(v:B):Full (h.new v).tr (h.new v).nx∧∀ b,tget .no (h.new v).tr b=if b=h.nx then v else tget .no h.tr b:=by
  cases h with |mk t n r=>
  obtain⟨q1,q2⟩:=full_set v t n n hf (Nat.le_refl _)
  rw [Nat.max_eq_right (by omega)]at q1
  exact⟨q1,q2 .no⟩
theorem Can.step_h (C:Can P W0 n0 nt TT pu pv ops R Es Hs){p:Nat}(hp:p<ops.length)(hk:kd TT pu (R p)≠some .m):Hs (p+1)=Hs p∨(kd TT pu (R p)=some .n∧∃ B,Hs (p+1)=(Hs p).new B):=by
  obtain⟨_,hd⟩:=C.dop p hp
  rcases hd with ⟨_,hac,x,_,ho⟩|⟨h,_⟩
  · have hkd:kd TT pu (R p)=some (kindOf TT pu (R p).o.op):=by unfold kd;rw [hac]
    rw [hkd]at hk ⊢
    cases hkk:kindOf TT pu (R p).o.op with
    |v=>rw [hkk]at ho;exact .inl ho.1
    |l=>rw [hkk]at ho;exact .inl ho.1
    |p=>rw [hkk]at ho;exact .inl ho.1
    |n=>rw [hkk]at ho;obtain⟨f,B,_,h,_⟩:=ho;exact .inr ⟨rfl,B,h⟩
    |m=>rw [hkk]at hk;exact absurd rfl hk
  · exact .inl h
def Qt (TT:List TI)(pu:List Nat)(R:Nat→Rec)(x y:Nat):Prop:=∀ p,x≤p→p<y→kd TT pu (R p)≠some .m
structure Qh (R:Nat→Rec) (TT:List TI) (pu:List Nat) (Hs:Nat→H) (x y:Nat):Prop where
  full:Full (Hs y).tr (Hs y).nx
  nx:(Hs x).nx≤(Hs y).nx
  old:∀ b,b<(Hs x).nx→tget .no (Hs y).tr b=tget .no (Hs x).tr b
  ro:(Hs y).ro=(Hs x).ro
  new:∀ b,(Hs x).nx≤b→b<(Hs y).nx→∃ z B,x≤z∧z<y∧kd TT pu (R z)=some .n∧Hs (z+1)=(Hs z).new B∧b=(Hs z).nx
theorem Can.qh (C:Can P W0 n0 nt TT pu pv ops R Es Hs)(x:Nat)(hf:Full (Hs x).tr (Hs x).nx):∀ d,x+d≤ops.length→Qt TT pu R x (x+d)→Qh R TT pu Hs x (x+d)
  |0,_,_=>⟨hf,Nat.le_refl _,fun _ _=>rfl,rfl,fun b h1 h2=>by have h2:b<(Hs x).nx:=h2;omega⟩
  |d+1,hd,hq=>by
    have ih:=C.qh x hf d (by omega) fun p h1 h2=>hq p h1 (by omega)
    rcases C.step_h (p:=x+d) (by omega) (hq (x+d) (by omega) (by omega))with h|⟨hk,B,h⟩
    · have e:Hs (x+(d+1))=Hs (x+d):=h
      refine⟨by rw [e];exact ih.full,by rw [e];exact ih.nx,fun b hb=>by rw [e];exact ih.old b hb,by rw [e];exact ih.ro,fun b h1 h2=>?_⟩
      rw [e]at h2
      obtain⟨z,B,z1,z2,z3⟩:=ih.new b h1 h2
      exact⟨z,B,z1,by omega,z3⟩
    · have e:Hs (x+(d+1))=(Hs (x+d)).new B:=h
      obtain⟨f1,f2⟩:=new_full ih.full B
      have:=ih.nx
      refine⟨by rw [e];exact f1,by rw [e,new_nx];omega,fun b hb=>by rw [e,f2,if_neg (by omega)];exact ih.old b hb,by rw [e,new_ro];exact ih.ro,fun b h1 h2=>?_⟩
      rw [e,new_nx]at h2
      by_cases hb:b=(Hs (x+d)).nx
      · exact⟨x+d,B,by omega,by omega,hk,h,hb⟩
      · obtain⟨z,B',z1,z2,z3⟩:=ih.new b h1 (by omega)
        exact⟨z,B',z1,by omega,z3⟩
theorem HR.up {α:Al}{w:World}{x y:Nat}(hr:HR W0 α w (Hs x))(q:Qh R TT pu Hs x y):HR W0 α w (Hs y) where
  agr:=hr.agr
  ro:=by rw [q.ro];exact Nat.le_trans hr.ro q.nx
  full:=q.full
  dom b L e:=let ⟨h1,h2,h3⟩:=hr.dom b L e;⟨Nat.lt_of_lt_of_le h1 q.nx,h2.imp id fun e=>by rw [q.ro];exact e,h3⟩
  blk b L e:=by rw [q.old b (hr.dom b L e).1];exact hr.blk b L e
  dis b b' L L' e e' g g' h:=by
    rw [q.old b (hr.dom b L e).1]at g
    rw [q.old b' (hr.dom b' L' e').1]at g'
    exact hr.dis b b' L L' e e' g g' h
theorem HR.down {α:Al}{w:World}{x y:Nat}(hr:HR W0 α w (Hs y))(q:Qh R TT pu Hs x y)(hf:Full (Hs x).tr (Hs x).nx)(hro:(Hs x).ro≤(Hs x).nx)(hm:∀ b L,α b=some L→b<(Hs x).nx):HR W0 α w (Hs x) where
  agr:=hr.agr
  ro:=hro
  full:=hf
  dom b L e:=let ⟨_,h2,h3⟩:=hr.dom b L e;⟨hm b L e,h2.imp id fun e=>by rw [← q.ro];exact e,h3⟩
  blk b L e:=by rw [← q.old b (hm b L e)];exact hr.blk b L e
  dis b b' L L' e e' g g' h:=by
    rw [← q.old b (hm b L e)]at g
    rw [← q.old b' (hm b' L' e')]at g'
    exact hr.dis b b' L L' e e' g g' h
theorem Step.up {α0 α:Al}{w0 w:World}{h0:H}{x y:Nat}(s:Step W0 α0 w0 h0 α w (Hs x))(q:Qh R TT pu Hs x y):Step W0 α0 w0 h0 α w (Hs y) where
  hr:=s.hr.up q
  ext:=s.ext
  fr:=s.fr
  ro:=⟨q.ro.trans s.ro.ro,Nat.le_trans s.ro.nx q.nx,fun b hb=>(q.old b (by have:=s.hr.ro;rw [s.ro.ro]at this;omega)).trans (s.ro.keep b hb)⟩
  un b hb e:=(q.old b (Nat.lt_of_lt_of_le hb s.ro.nx)).trans (s.un b hb e)
theorem Step.late {α0 α:Al}{w0 w:World}{h0 h:H}(s:Step W0 α0 w0 h0 α w h){id:Nat}{L:Loc}{ob:Obj}{B0:B}(hid:α id=none)(h1:h0.nx≤id)(h2:id<h.nx)(hB:tget .no h.tr id=B0)(hL':L.At w.heap.size)
    (hb:∀ α' w',Le α α'→w'.heap[w.heap.size]? =some ob→BR α' w' L B0) (h00:α0 id=none):Step W0 α0 w0 h0 (α.set id L) (w.alloc ob) h where
  hr:=by
    have hL:=hL'.1
    have hLz:=hL'.2
    have hr:=s.hr
    have hle:=Al.le_set L hid
    have hag:=agree_alloc w ob
    refine⟨hr.agr.trans hag,hr.ro,hr.full,fun b L' e=>?_,fun b L' e=>?_,fun b b' L1 L2 e1 e2 g1 g2 eb=>?_⟩
    · rw [alloc_size]
      by_cases hb':b=id
      · subst hb'
        rw [Al.set_same]at e
        cases e
        exact⟨h2,.inl ⟨by rw [hL];exact hr.agr.size,hLz⟩,by omega⟩
      · rw [α.set_ne L hb']at e
        obtain⟨q1,q2,q3⟩:=hr.dom b L' e
        exact⟨q1,q2,by omega⟩
    · by_cases hb':b=id
      · subst hb'
        rw [Al.set_same]at e
        cases e
        rw [hB]
        exact hb _ _ hle (alloc_heap w ob)
      · rw [α.set_ne L hb']at e
        exact((hr.blk b L' e).world (hag.heap _ (hr.dom b L' e).2.2)).mono hle
    · by_cases q1:b=id<;>by_cases q2:b'=id
      · rw [q1,q2]
      · subst q1
        rw [Al.set_same]at e1
        cases e1
        rw [α.set_ne L q2]at e2
        have:=(hr.dom _ _ e2).2.2
        omega
      · subst q2
        rw [Al.set_same]at e2
        cases e2
        rw [α.set_ne L q1]at e1
        have:=(hr.dom _ _ e1).2.2
        omega
      · rw [α.set_ne L q1]at e1
        rw [α.set_ne L q2]at e2
        exact hr.dis b b' L1 L2 e1 e2 g1 g2 eb
  ext:=⟨s.ext.le.trans (Al.le_set L hid),fun b L' e=>by
    by_cases hb':b=id
    · subst hb'
      rw [Al.set_same]at e
      cases e
      exact .inr ⟨h00,h1,.inl (by rw [hL'.1];exact s.fr.size)⟩
    · rw [α.set_ne L hb']at e
      exact s.ext.new b L' e⟩
  fr:=⟨Nat.le_trans s.fr.size (agree_alloc w ob).size,fun k hk hn=>((agree_alloc w ob).heap k (Nat.lt_of_lt_of_le hk s.fr.size)).trans (s.fr.keep k hk hn),s.fr.os,s.fr.out⟩
  ro:=s.ro
  un:=s.un
def QL (TT:List TI)(pu:List Nat)(R:Nat→Rec)(n:Nat)(L:Array Bool):Nat:=fstF (fun p=>(match kd TT pu (R p)with |some .m=>true|_=>false)&&!lb R L p) 0 n
theorem isM_iff {r:Rec}:(match kd TT pu r with |some .m=>true|_=>false)=true↔kd TT pu r=some .m:=by
  cases h:kd TT pu r with
  |none=>simp
  |some k=>cases k<;>simp
theorem ql_spec (TT:List TI)(pu:List Nat)(R:Nat→Rec)(n:Nat)(L:Array Bool):QL TT pu R n L≤n∧(∀ p,p<QL TT pu R n L→kd TT pu (R p)=some .m→lb R L p=true)∧(QL TT pu R n L<n→kd TT pu (R (QL TT pu R n L))=some .m∧lb R L (QL TT pu R n L)=false):=by
  obtain⟨_,h2,h3,h4⟩:=fstF_spec (fun p=>(match kd TT pu (R p)with |some .m=>true|_=>false)&&!lb R L p) n 0
  refine⟨by rw [Nat.zero_add]at h2;exact h2,fun p hp hw=>?_,fun hlt=>?_⟩
  · have:=h3 p (Nat.zero_le _) hp
    rw [isM_iff.2 hw]at this
    simpa using this
  · have:=h4 (by rw [Nat.zero_add];exact hlt)
    rw [Bool.and_eq_true]at this
    refine⟨isM_iff.1 this.1,?_⟩
    have h:=this.2
    rw [Bool.not_eq_true']at h
    exact h
structure HInv (W0:World) (TT:List TI) (pu:List Nat) (R:Nat→Rec) (Hs:Nat→H) (n:Nat) (α0:Al) (w0:World) (h0:H) (L:Array Bool) (α:Al) (w:World):Prop where
  st:Step W0 α0 w0 h0 α w (Hs (QL TT pu R n L))
  nn:∀ y,y<QL TT pu R n L→lb R L y=false→kd TT pu (R y)=some .n→∀ B,Hs (y+1)=(Hs y).new B→α (Hs y).nx=none∧tget .no (Hs (QL TT pu R n L)).tr (Hs y).nx=B
  fu:∀ x,x≤QL TT pu R n L→Full (Hs x).tr (Hs x).nx∧(Hs x).ro≤(Hs x).nx
  mo:∀ x,x<QL TT pu R n L→(Hs x).nx≤(Hs (x+1)).nx
theorem mono_le {n:Nat}(h:∀ x,x<n→(Hs x).nx≤(Hs (x+1)).nx):∀ d x,x+d≤n→(Hs x).nx≤(Hs (x+d)).nx
  |0,_,_=>Nat.le_refl _
  |d+1,x,hd=>Nat.le_trans (mono_le h d x (by omega)) (h (x+d) (by omega))
variable {α0 α:Al} {w0 w:World} {h0:H}
theorem Can.hup (C:Can P W0 n0 nt TT pu pv ops R Es Hs){x:Nat}(hx:x≤QL TT pu R ops.length L)(hq:Qt TT pu R x (QL TT pu R ops.length L))(st:Step W0 α0 w0 h0 α w (Hs x))
    (nn:∀ y,y<x→lb R L y=false→kd TT pu (R y)=some .n→∀ B,Hs (y+1)=(Hs y).new B→α (Hs y).nx=none∧(Hs y).nx<(Hs x).nx∧tget .no (Hs x).tr (Hs y).nx=B)
    (fu:∀ z,z<x→Full (Hs z).tr (Hs z).nx∧(Hs z).ro≤(Hs z).nx) (mo:∀ z,z<x→(Hs z).nx≤(Hs (z+1)).nx):HInv W0 TT pu R Hs ops.length α0 w0 h0 L α w:=by
  obtain⟨q1,_,_⟩:=ql_spec TT pu R ops.length L
  have hqh:∀ y,x≤y→y≤QL TT pu R ops.length L→Qh R TT pu Hs x y:=fun y h1 h2=>by
    have:=C.qh x st.hr.full (y-x) (by omega) (by rw [show x+(y-x)=y by omega];exact fun p g1 g2=>hq p g1 (by omega))
    rwa [show x+(y-x)=y by omega]at this
  have qh:=hqh _ hx (Nat.le_refl _)
  refine⟨st.up qh,fun y hy hl hk B hB=>?_,fun z hz=>?_,fun z hz=>?_⟩
  · rcases Nat.lt_or_ge y x with h|h
    · obtain⟨a1,a2,a3⟩:=nn y h hl hk B hB
      exact⟨a1,(qh.old _ a2).trans a3⟩
    · have g1:=hqh y h (by omega)
      constructor
      · cases e:α (Hs y).nx with
        |none=>rfl
        |some L'=>have:=(st.hr.dom _ _ e).1;have:=g1.nx;omega
      · obtain⟨f1,f2⟩:=new_full g1.full B
        have g2:=C.qh (y+1) (by rw [hB];exact f1) (QL TT pu R ops.length L-(y+1)) (by omega) (by rw [show y+1+(QL TT pu R ops.length L-(y+1))=QL TT pu R ops.length L by omega];exact fun p g1 g2=>hq p (by omega) g2)
        rw [show y+1+(QL TT pu R ops.length L-(y+1))=QL TT pu R ops.length L by omega]at g2
        rw [g2.old _ (by rw [hB,new_nx];omega),hB,f2,if_pos rfl]
  · rcases Nat.lt_or_ge z x with h|h
    · exact fu z h
    · have g1:=hqh z h hz
      refine⟨g1.full,?_⟩
      rw [g1.ro]
      exact Nat.le_trans st.hr.ro g1.nx
  · rcases Nat.lt_or_ge z x with h|h
    · exact mo z h
    · rcases C.step_h (p:=z) (by omega) (hq z h hz)with e|⟨_,B,e⟩<;>rw [e]
      · exact Nat.le_refl _
      · rw [new_nx];omega
theorem lastM (TT:List TI)(pu:List Nat)(R:Nat→Rec)(x:Nat):∀ d,Qt TT pu R x (x+d)∨∃ m,x≤m∧m<x+d∧kd TT pu (R m)=some .m∧Qt TT pu R (m+1) (x+d)
  |0=>.inl fun p h1 h2=>by have h2:p<x:=h2;omega
  |d+1=>by
    by_cases hk:kd TT pu (R (x+d))=some .m
    · exact .inr ⟨x+d,by omega,by omega,hk,fun p h1 h2=>by omega⟩
    · have ext:∀ y,Qt TT pu R y (x+d)→Qt TT pu R y (x+(d+1)):=fun y h p h1 h2=>by
        by_cases e:p=x+d
        · subst e;exact hk
        · exact h p h1 (by omega)
      rcases lastM TT pu R x d with h|⟨m,m1,m2,m3,m4⟩
      · exact .inl (ext x h)
      · exact .inr ⟨m,m1,by omega,m3,ext _ m4⟩
theorem Can.ql_set (C:Can P W0 n0 nt TT pu pv ops R Es Hs)(hL:LInv ops L){p:Nat}(hp:p<ops.length)(hk:kd TT pu (R p)≠some .m):QL TT pu R ops.length (L.setIfInBounds (R p).i true)=QL TT pu R ops.length L:=by
  unfold QL
  refine fstF_congr _ _ fun x _ hx=>?_
  rw [C.lb_set hL hp (by omega)]
  by_cases e:p=x
  · subst e
    have:(match kd TT pu (R p)with |some .m=>true|_=>false)=false:=by
      cases h:(match kd TT pu (R p)with |some .m=>true|_=>false)
      · rfl
      · exact absurd (isM_iff.1 h) hk
    rw [this];rfl
  · rw [if_neg e]
theorem Can.hsame (C:Can P W0 n0 nt TT pu pv ops R Es Hs)(hL:LInv ops L){p:Nat}(hp:p<ops.length)(hk:kd TT pu (R p)≠some .m)(hi:HInv W0 TT pu R Hs ops.length α0 w0 h0 L α w){α':Al}{w':World}
    (st:Step W0 α0 w0 h0 α' w' (Hs (QL TT pu R ops.length L))) (hnn:∀ y,y<QL TT pu R ops.length L→y≠p→lb R L y=false→kd TT pu (R y)=some .n→∀ B,Hs (y+1)=(Hs y).new B→α' (Hs y).nx=none):HInv W0 TT pu R Hs ops.length α0 w0 h0 (L.setIfInBounds (R p).i true) α' w':=by
  have e:=C.ql_set hL hp hk
  obtain⟨q1,_,_⟩:=ql_spec TT pu R ops.length L
  refine⟨by rw [e];exact st,fun y hy hl hky B hB=>?_,by rw [e];exact hi.fu,by rw [e];exact hi.mo⟩
  rw [e]at hy ⊢
  rw [C.lb_set hL hp (by omega)]at hl
  by_cases hyp:p=y
  · rw [if_pos hyp]at hl;cases hl
  · rw [if_neg hyp]at hl
    exact⟨hnn y hy (fun h=>hyp h.symm) hl hky B hB,(hi.nn y hy hl hky B hB).2⟩
theorem Can.ql_m (C:Can P W0 n0 nt TT pu pv ops R Es Hs)(hL:LInv ops L){p:Nat}(hp:p<ops.length)(hno:lb R L p=false)(hd:∀ k∈Go.X1.deps (R p).o,L.getD k false=true)(hk:kd TT pu (R p)=some .m)(ht:p+1=ops.length→∀ q,q+2=ops.length→kd TT pu (R q)=some .m→lb R L q=true):QL TT pu R ops.length L=p:=by
  obtain⟨q1,q2,q3⟩:=ql_spec TT pu R ops.length L
  rcases Nat.lt_trichotomy (QL TT pu R ops.length L) p with h|h|h
  · obtain⟨a1,a2⟩:=q3 (by omega)
    rcases C.mm _ p h hp a1 hk with hm|⟨m1,m2⟩
    · have:=C.anc_lb hL hp (.inr hd) hm
      rw [a2]at this;cases this
    · rw [ht m2 _ m1 a1]at a2;cases a2
  · exact h
  · have:=q2 p h hk
    rw [hno]at this;cases this
theorem Can.hnext (C:Can P W0 n0 nt TT pu pv ops R Es Hs)(hL:LInv ops L){p:Nat}(hp:p<ops.length)(hno:lb R L p=false)(hd:∀ k∈Go.X1.deps (R p).o,L.getD k false=true)(hk:kd TT pu (R p)=some .m)(ht:p+1=ops.length→∀ q,q+2=ops.length→kd TT pu (R q)=some .m→lb R L q=true)(ht2:p+2=ops.length→∀ q,q+1=ops.length→kd TT pu (R q)=some .m→lb R L q=false)(hi:HInv W0 TT pu R Hs ops.length α0 w0 h0 L α w){α':Al}{w':World}
    (st:Step W0 α0 w0 h0 α' w' (Hs (p+1))) (hnx:(Hs p).nx≤(Hs (p+1)).nx) (hun:∀ b,b<(Hs p).nx→α b=none→α' b=none∧tget .no (Hs (p+1)).tr b=tget .no (Hs p).tr b):HInv W0 TT pu R Hs ops.length α0 w0 h0 (L.setIfInBounds (R p).i true) α' w':=by
  have e:=C.ql_m hL hp hno hd hk ht
  obtain⟨q1,q2,q3⟩:=ql_spec TT pu R ops.length (L.setIfInBounds (R p).i true)
  obtain⟨_,o2,_⟩:=ql_spec TT pu R ops.length L
  have hlt:p+1≤QL TT pu R ops.length (L.setIfInBounds (R p).i true):=by
    rcases Nat.lt_or_ge p (QL TT pu R ops.length (L.setIfInBounds (R p).i true))with h|h
    · exact h
    · obtain⟨a1,a2⟩:=q3 (by omega)
      rw [C.lb_set hL hp (by omega)]at a2
      by_cases h':p=QL TT pu R ops.length (L.setIfInBounds (R p).i true)
      · rw [if_pos h']at a2;cases a2
      · rw [if_neg h']at a2
        rw [o2 _ (by omega) a1]at a2;cases a2
  refine C.hup hlt (fun x h1 h2 hkx=>?_) st (fun y hy hl hky B hB=>?_) (fun z hz=>hi.fu z (by omega)) fun z hz=>?_
  · have a:=q2 x h2 hkx
    rw [C.lb_set hL hp (by omega),if_neg (by omega)]at a
    rcases C.mm p x (by omega) (by omega) hk hkx with hm|⟨m1,m2⟩
    · have:=C.anc_lb hL (by omega:x<ops.length) (.inl a) hm
      rw [hno]at this;cases this
    · rw [ht2 m1 _ m2 hkx]at a;cases a
  · rw [C.lb_set hL hp (by omega)]at hl
    by_cases hyp:p=y
    · rw [if_pos hyp]at hl;cases hl
    · rw [if_neg hyp]at hl
      have hyp':y<p:=by omega
      obtain⟨a1,a2⟩:=hi.nn y (by omega) hl hky B hB
      rw [e]at a2
      have hb:(Hs y).nx<(Hs p).nx:=by
        have h1:(Hs (y+1)).nx≤(Hs p).nx:=by
          have:=mono_le hi.mo (p-(y+1)) (y+1) (by omega)
          rwa [show y+1+(p-(y+1))=p by omega]at this
        rw [hB,new_nx]at h1
        omega
      obtain⟨b1,b2⟩:=hun _ hb a1
      exact⟨b1,by omega,b2.trans a2⟩
  · by_cases hz':z=p
    · subst hz';exact hnx
    · exact hi.mo z (by omega)
end
end Go.X1

set_option maxRecDepth 100000
namespace Go.X1
variable [Nu]
open Go.Region (ready binds)
section
variable {P:Program} {TT:List TI} {W0:World} {nt:Nat} {pu pv:List Nat} {ops:List Oper} {R:Nat→Rec} {Es:Nat→E} {Hs:Nat→H} {L:Array Bool} {α0:Al} {w0:World} {h0:H}
def Inv (W0:World)(nt:Nat)(TT:List TI)(pu:List Nat)(R:Nat→Rec)(Es:Nat→E)(Hs:Nat→H)(n:Nat)(α0:Al)(w0:World)(h0:H)(L:Array Bool)(a:Act)(w:World):Prop:=
  ∃ α β,SV w0.heap.size nt (VL R Es n L) α β w a∧HInv W0 TT pu R Hs n α0 w0 h0 L α w∧∀ p,p<n→lb R L p=false→∀ d,(R p).o.dst=some d→(R p).ac=.wr d→β d=none
theorem hinv_lt {α:Al}{w:World}{n:Nat}(hi:HInv W0 TT pu R Hs n α0 w0 h0 L α w){y:Nat}(hy:y<QL TT pu R n L){B:B}(hB:Hs (y+1)=(Hs y).new B):(Hs y).nx<(Hs (QL TT pu R n L)).nx:=by
  have:=mono_le hi.mo (QL TT pu R n L-(y+1)) (y+1) (by omega)
  rw [show y+1+(QL TT pu R n L-(y+1))=QL TT pu R n L by omega,hB,new_nx]at this
  omega
theorem Can.rd_at (C:Can P W0 w0.heap.size nt TT pu pv ops R Es Hs)(hL:LInv ops L){p:Nat}(hp:p<ops.length)(hno:lb R L p=false)(hd:∀ k∈Go.X1.deps (R p).o,L.getD k false=true)(hk:kd TT pu (R p)=some .l∨kd TT pu (R p)=some .p)
    (hge:GE (R p).gu (Es p)) {x:A} (hx:Es (p+1)=put (Es p) (R p).o.dst (.v x)) (ho:OpK P W0 (kindOf TT pu (R p).o.op) (R p).o.op (val (Es p)) (Hs p) x (Hs (p+1))):
    ∃ y v h3,y≤QL TT pu R ops.length L∧Qt TT pu R y (QL TT pu R ops.length L)∧(y=QL TT pu R ops.length L∨p≤y)∧OpK P W0 (kindOf TT pu (R p).o.op) (R p).o.op (val (Es p)) (Hs y) v h3∧∀ t,(R p).o.dst=some t→v=x:=by
  obtain⟨q1,q2,q3⟩:=ql_spec TT pu R ops.length L
  obtain⟨e1,e2,e3,e4⟩:=C.e p hp
  have hkm:kd TT pu (R p)≠some .m:=by rcases hk with h|h<;>rw [h]<;>simp
  have hdv:∀ t,(R p).o.dst=some t→dval (R p).o (R p).e'=x:=fun t ht=>by
    rw [e3,hx]
    unfold dval
    rw [ht]
    show sval (eget (put (Es p) (some t) (.v x)).tm t)=x
    rw [eget_put,if_pos rfl]
    rfl
  rcases Nat.lt_trichotomy (QL TT pu R ops.length L) p with h|h|h
  · obtain⟨a1,a2⟩:=q3 (by omega)
    have hf:anc (masks ops []) (R p).i (R (QL TT pu R ops.length L)).i=false:=by
      cases hh:anc (masks ops []) (R p).i (R (QL TT pu R ops.length L)).i
      · rfl
      · have:=C.anc_lb hL hp (.inr hd) hh
        rw [a2]at this;cases this
    obtain⟨h3,hag⟩:=(C.pair _ p h hp).r1 a1 hk hf (by rw [e1];exact hge)
    rw [(C.e _ (by omega:QL TT pu R ops.length L<ops.length)).2.1,e1]at hag
    exact⟨_,_,h3,Nat.le_refl _,fun p h1 h2=>by omega,.inl rfl,hag,hdv⟩
  · obtain⟨a1,_⟩:=q3 (by omega)
    rw [h]at a1
    exact absurd a1 hkm
  · rcases lastM TT pu R p (QL TT pu R ops.length L-p)with hq|⟨m,m1,m2,m3,m4⟩
    · rw [show p+(QL TT pu R ops.length L-p)=QL TT pu R ops.length L by omega]at hq
      exact⟨p,x,_,by omega,hq,.inr (Nat.le_refl _),ho,fun _ _=>rfl⟩
    · rw [show p+(QL TT pu R ops.length L-p)=QL TT pu R ops.length L by omega]at m2 m4
      have hpm:p<m:=by
        rcases Nat.lt_or_ge p m with h|h
        · exact h
        · have:p=m:=by omega
          subst this
          exact absurd m3 hkm
      have hf:anc (masks ops []) (R m).i (R p).i=false:=by
        cases hh:anc (masks ops []) (R m).i (R p).i
        · rfl
        · have:=C.anc_lb hL (by omega:m<ops.length) (.inl (q2 m m2 m3)) hh
          rw [hno]at this;cases this
      obtain⟨h3,hag⟩:=(C.pair p m hpm (by omega)).r2 m3 hk hf (by rw [e1];exact hge)
      rw [(C.e m (by omega)).2.2.2,e1]at hag
      exact⟨m+1,_,h3,by omega,m4,.inr (by omega),hag,hdv⟩
theorem opp_o {o:Oper}{env:E}{h:H}{x:A}{α:Al}{a:Act}{w:World}(hv:OpP P W0 o.op (val env) h x)(hr:HR W0 α w h)(hρ:∀ y∈o.op.operands,Rep α (a.eval y) (val env y)){N:Act→World→Prop}{Q:Exit→Act→World→Prop}(hn:∀ w' v,Step W0 α w h α w' h→Rep α v x→N (a.put o.dst v) w'):Oper.wp P o a w N Q:=by
  obtain⟨d,op,ty,pos,af,g⟩:=o
  exact hv d ty pos af g α w a hr hρ N Q hn
theorem opn_o {o:Oper}{env:E}{h:H}{f:Nat→A}{B0:B}{α:Al}{a:Act}{w:World}(hv:OpN P W0 o.op (val env) f B0)(hr:HR W0 α w h)(hρ:∀ y∈o.op.operands,Rep α (a.eval y) (val env y)):
    ∃ v ob L,(execOp a.eval o).run P w=.ok (.value v) (w.alloc ob)∧L.At w.heap.size∧(∀ α' w',Le α α'→w'.heap[w.heap.size]? =some ob→BR α' w' L B0)∧∀ α' id,α' id=some L→Rep α' v (f id):=by
  obtain⟨d,op,ty,pos,af,g⟩:=o
  exact hv d ty pos af g α w a h hr hρ
theorem Can.step (C:Can P W0 w0.heap.size nt TT pu pv ops R Es Hs)(hW:W0.heap.size≤w0.heap.size)(h00:h0.nx≤(Hs 0).nx)(hL:LInv ops L){p:Nat}(hp:p<ops.length)(hno:lb R L p=false)(hd:∀ k∈Go.X1.deps (R p).o,L.getD k false=true)
    (ht:kd TT pu (R p)=some .m→p+1=ops.length→∀ q,q+2=ops.length→kd TT pu (R q)=some .m→lb R L q=true) (ht2:kd TT pu (R p)=some .m→p+2=ops.length→∀ q,q+1=ops.length→kd TT pu (R q)=some .m→lb R L q=false) {a:Act} {w:World}
    (hI:Inv W0 nt TT pu R Es Hs ops.length α0 w0 h0 L a w) {N:Act→World→Prop} {Q:Exit→Act→World→Prop} (hn:∀ a' w',Inv W0 nt TT pu R Es Hs ops.length α0 w0 h0 (L.setIfInBounds (R p).i true) a' w'→N a' w'):OpStep P (R p).gu (R p).o a w N Q:=by
  obtain⟨α,β,hs,hh,hmk⟩:=hI
  obtain⟨hc,hdop⟩:=C.dop p hp
  obtain⟨q1,q2,q3⟩:=ql_spec TT pu R ops.length L
  have hla:=C.la hL hp hno hd
  have hpg:=C.pgi hL hp hno
  have hdn:∀ t,(R p).o.dst=some t→t<nt:=fun t e=>(nodupD_spec C.nd _ _ t (C.op p hp) e).1
  have hgd:=guardOf_ne (C.gu p hp)
  have hmk':∀ β':Be,(∀ b,β b=none→β' b≠none→(R p).o.dst=some b∧(R p).ac=.wr b)→∀ p',p'<ops.length→lb R (L.setIfInBounds (R p).i true) p'=false→∀ d,(R p').o.dst=some d→(R p').ac=.wr d→β' d=none:=fun β' hβ p' hp' hl d hd' ha=>by
    rw [C.lb_set hL hp hp']at hl
    by_cases e:p=p'
    · rw [if_pos e]at hl;cases hl
    · rw [if_neg e]at hl
      apply Classical.byContradiction
      intro hne
      obtain⟨h1,_⟩:=hβ d (hmk p' hp' hl d hd' ha) hne
      exact e (C.uniq hp hp' h1 hd').symm
  rcases hdop with ⟨hge,hac,x,hx,ho⟩|⟨hh',hpf⟩
  · have hkd:kd TT pu (R p)=some (kindOf TT pu (R p).o.op):=by unfold kd;rw [hac]
    refine⟨fun _=>?_,fun hv=>absurd (ge_gv hs hla hge) hv⟩
    have hρ:∀ y∈(R p).o.op.operands,Rep α (a.eval y) (val (Es p) y):=fun y hy=>op_rep hs hla hy
    have fin:∀ α' w' v,Grow α w α' w'→(∀ t,(R p).o.dst=some t→Rep α' v x)→HInv W0 TT pu R Hs ops.length α0 w0 h0 (L.setIfInBounds (R p).i true) α' w'→N (a.put (R p).o.dst v) w':=fun α' w' v g r hi=>by
      refine hn _ _ ⟨α',β,C.sv_next hL hp hno hd ?_,hi,hmk' β fun b e1 e2=>absurd e1 e2⟩
      rw [show wrB (R p).ac=none by rw [hac];rfl]
      refine(hs.grow g).put hdn hpg fun t e=>?_
      rw [hx,eget_put,if_pos e]
      show Rep α' _ x
      rw [put_self e (Nat.lt_of_lt_of_le (hdn t e) hs.size)]
      exact r t e
    have hnn:∀ α':Al,(∀ b L',α' b=some L'→α b=some L'∨(Hs (QL TT pu R ops.length L)).nx≤b)→∀ y,y<QL TT pu R ops.length L→y≠p→lb R L y=false→kd TT pu (R y)=some .n→∀ B,Hs (y+1)=(Hs y).new B→α' (Hs y).nx=none:=fun α' hα y hy _ hl hk B hB=>by
      have h1:=(hh.nn y hy hl hk B hB).1
      have h2:=hinv_lt hh hy hB
      cases e:α' (Hs y).nx with
      |none=>rfl
      |some L'=>
        rcases hα _ _ e with h|h
        · rw [h1]at h;cases h
        · omega
    cases hkk:kindOf TT pu (R p).o.op with
    |v=>
      rw [hkk]at ho hkd
      have hkm:kd TT pu (R p)≠some .m:=by rw [hkd];simp
      refine ops_o (ho.2.ops (Hs (QL TT pu R ops.length L))) hh.st.hr hρ fun α' w' v s r=>fin α' w' v s.grow (fun _ _=>r) (C.hsame hL hp hkm hh (hh.st.trans s) (hnn α' fun b L' e=>?_))
      exact(s.ext.new b L' e).imp id fun h=>h.2.1
    |l=>
      obtain⟨y,v0,h3,y1,y2,y3,y4,y5⟩:=C.rd_at hL hp hno hd (.inl (by rw [hkd,hkk])) hge hx ho
      rw [hkk]at y4 hkd
      have hkm:kd TT pu (R p)≠some .m:=by rw [hkd];simp
      have qh:=C.qh y (hh.fu y y1).1 (QL TT pu R ops.length L-y) (by omega) (by rw [show y+(QL TT pu R ops.length L-y)=QL TT pu R ops.length L by omega];exact y2)
      rw [show y+(QL TT pu R ops.length L-y)=QL TT pu R ops.length L by omega]at qh
      have hm:Mono (Hs y) (Hs (QL TT pu R ops.length L)):=⟨qh.nx,fun b hb=>qh.old b (by
        rcases Nat.lt_or_ge b (Hs y).nx with h|h
        · exact h
        · exact absurd (full_out .no _ _ _ (hh.fu y y1).1 h) hb)⟩
      refine ops_o (y4.2.ops hm) hh.st.hr hρ fun α' w' v s r=>fin α' w' v s.grow (fun t e=>by rw [← y5 t e];exact r) (C.hsame hL hp hkm hh (hh.st.trans s) (hnn α' fun b L' e=>?_))
      exact(s.ext.new b L' e).imp id fun h=>h.2.1
    |p=>
      have hkp:kd TT pu (R p)=some .p:=by rw [hkd,hkk]
      obtain⟨y,v0,h3,y1,y2,y3,y4,y5⟩:=C.rd_at hL hp hno hd (.inr hkp) hge hx ho
      rw [hkk]at y4
      have hkm:kd TT pu (R p)≠some .m:=by rw [hkp];simp
      have qh:=C.qh y (hh.fu y y1).1 (QL TT pu R ops.length L-y) (by omega) (by rw [show y+(QL TT pu R ops.length L-y)=QL TT pu R ops.length L by omega];exact y2)
      rw [show y+(QL TT pu R ops.length L-y)=QL TT pu R ops.length L by omega]at qh
      have hmap:∀ b L',α b=some L'→b<(Hs y).nx:=fun b L' e=>by
        rcases Nat.lt_or_ge b (Hs y).nx with h|h
        · exact h
        · exfalso
          obtain⟨z,B,z1,z2,z3,z4,rfl⟩:=qh.new b h (hh.st.hr.dom b L' e).1
          have hpz:p<z:=by
            rcases y3 with y3|y3
            · omega
            · by_cases hz:p=z
              · subst hz;rw [hkp]at z3;cases z3
              · omega
          have hzl:lb R L z=false:=by
            cases hb:lb R L z with
            |false=>rfl
            |true=>
              have:=C.anc_lb hL (by omega:z<ops.length) (.inl hb) ((C.pair p z hpz (by omega)).nn z3 (.inr hkp))
              rw [hno]at this;cases this
          rw [(hh.nn z z2 hzl z3 B z4).1]at e;cases e
      have hry:HR W0 α w (Hs y):=hh.st.hr.down qh (hh.fu y y1).1 (hh.fu y y1).2 hmap
      refine opp_o y4.2 hry hρ fun w' v s r=>fin α w' v s.grow (fun t e=>by rw [← y5 t e];exact r) ?_
      refine C.hsame hL hp hkm hh (hh.st.trans ⟨s.hr.up qh,.refl _ _ _,s.fr,.refl _,fun _ _ _=>rfl⟩) (hnn α fun b L' e=>.inl e)
    |n=>
      rw [hkk]at ho hkd
      have hkm:kd TT pu (R p)≠some .m:=by rw [hkd];simp
      obtain⟨f,B0,hxf,hB,hop⟩:=ho
      have hpq:p<QL TT pu R ops.length L:=by
        rcases Nat.lt_trichotomy (QL TT pu R ops.length L) p with h|h|h
        · obtain⟨a1,a2⟩:=q3 (by omega)
          have:=C.anc_lb hL hp (.inr hd) ((C.pair _ p h hp).nn hkd (.inl a1))
          rw [a2]at this;cases this
        · obtain⟨a1,_⟩:=q3 (by omega)
          rw [h]at a1
          exact absurd a1 hkm
        · exact h
      obtain⟨n1,n2⟩:=hh.nn p hpq hno hkd B0 hB
      have n3:=hinv_lt hh hpq hB
      obtain⟨v,ob,L0,o1,o2,o3,o4⟩:=opn_o hop hh.st.hr hρ
      have hnx0:h0.nx≤(Hs p).nx:=by
        have:=mono_le hh.mo p 0 (by omega)
        rw [Nat.zero_add]at this
        omega
      have hα0:α0 (Hs p).nx=none:=by
        cases e:α0 (Hs p).nx with
        |none=>rfl
        |some L'=>have:=hh.st.ext.le _ _ e;rw [n1]at this;cases this
      refine value_wp o1 (fin (α.set (Hs p).nx L0) _ v ⟨Al.le_set L0 n1,fun b L' e=>?_,(grow_alloc α w ob).fr⟩ (fun t e=>?_) ?_)
      · by_cases hb:b=(Hs p).nx
        · subst hb
          rw [Al.set_same]at e
          cases e
          exact .inr (.inl (by have:=o2.1;omega))
        · rw [α.set_ne L0 hb]at e
          exact .inl e
      · rw [hxf];exact o4 _ _ (Al.set_same _ _ _)
      · refine C.hsame hL hp hkm hh (hh.st.late n1 hnx0 n3 n2 o2 o3 hα0) fun y hy hyp hl hk B hB'=>?_
        have hne:(Hs y).nx≠(Hs p).nx:=by
          rcases Nat.lt_trichotomy y p with h|h|h
          · have:=mono_le hh.mo (p-(y+1)) (y+1) (by omega)
            rw [show y+1+(p-(y+1))=p by omega,hB',new_nx]at this
            omega
          · exact absurd h hyp
          · have:=mono_le hh.mo (y-(p+1)) (p+1) (by omega)
            rw [show p+1+(y-(p+1))=y by omega,hB,new_nx]at this
            omega
        rw [α.set_ne L0 hne]
        exact(hh.nn y hy hl hk B hB').1
    |m=>
      have hkm:kd TT pu (R p)=some .m:=by rw [hkd,hkk]
      have hq:=C.ql_m hL hp hno hd hkm (ht hkm)
      have st:=hh.st
      rw [hq]at st
      refine ops_o ho.ops st.hr hρ fun α' w' v s r=>fin α' w' v s.grow (fun _ _=>r) (C.hnext hL hp hno hd hkm (ht hkm) (ht2 hkm) hh (st.trans s) s.ro.nx fun b hb e=>⟨?_,s.un b hb e⟩)
      cases e':α' b with
      |none=>rfl
      |some L'=>
        rcases s.ext.new b L' e' with h|⟨_,h,_⟩
        · rw [e]at h;cases h
        · omega
  · refine hpf (VL R Es ops.length L) α β w a (Hs (QL TT pu R ops.length L)) hs hh.st.fr.size hh.st.hr hla (fun b e=>C.ba hL hp hno hd (acc_rd e)) (fun b e _=>C.ba hL hp hno hd (acc_wr e)) hdn hgd (fun d e1 e2=>hmk p hp hno d e1 e2) hpg N Q fun β' w' a' s1 s2 s3 s4=>hn a' w' ⟨α,β',C.sv_next hL hp hno hd s4,?_,hmk' β' s3⟩
    by_cases hkm:kd TT pu (R p)=some .m
    · have hq:=C.ql_m hL hp hno hd hkm (ht hkm)
      have st:=s1 _ _ _ _ hW (Nat.le_refl _) hh.st
      rw [hq,← hh']at st
      exact C.hnext hL hp hno hd hkm (ht hkm) (ht2 hkm) hh st (by rw [hh'];exact Nat.le_refl _) fun b _ e=>⟨e,by rw [hh']⟩
    · exact C.hsame hL hp hkm hh (s1 _ _ _ _ hW (Nat.le_refl _) hh.st) fun y hy _ hl hk B hB=>(hh.nn y hy hl hk B hB).1
end
end Go.X1
