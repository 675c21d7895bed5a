
import Derived.Test.YtllbdfllngpkaaaGreatLibD
import Derived.Test.YtllbdfllngpkaaaGreatLibC
import Derived.MapKept
set_option linter.all false
namespace Go.Abs
def Untr (C:Ctx)(b:Nat):Prop:=¬ Own C b/\∀ l,C.lv l->¬ C.reg l b
def BlkF (C:Ctx)(w:World)(L:Loc)(rows:List (List V)):Prop:=Blk C w L rows/\Deep w L [] rows
theorem BlkF.mono {C C':Ctx}{w w':World}(E:Ext C C' w w'){L:Loc}{rows:List (List V)}(hb:∀ b,L.blk=some b->w'.heap[b]? =w.heap[b]?)(h:BlkF C w L rows):BlkF C' w' L rows:=
 ⟨h.1.mono E hb,h.2.mono hb (fun b hb=>by cases hb)⟩
def Priv (C:Ctx)(w:World)(L:Loc)(rows:List (List V)):Prop:=BlkF C w L rows/\L.n=rows.length/\∀ b,L.blk=some b->Untr C b
theorem Priv.mono {C C':Ctx}{w w':World}{L:Loc}{rows:List (List V)}(hz:C.lv 0/\C.lv 1)(E:Ext C C' w w')(F:Fr C C' w w')(h:Priv C w L rows):Priv C' w' L rows:=by
 obtain⟨h1,h2,h3⟩:=h;have hlt:∀ b,L.blk=some b->b<w.heap.size:=fun b hb=>jY h1.1 hb;refine ⟨h1.mono E (fun b hb=>F.keep b (hlt b hb) (h3 b hb).1),h2,fun b hb=>?_⟩;have hu:=h3 b hb;have hl:=hlt b hb;have ho:¬ Own C' b:=fun ho=>by
  rcases F.own b ho with h|h
  .exact hu.1 h
  .omega
 refine⟨ho,fun l hlv hr=>?_⟩;rcases Nat.lt_or_ge l 2 with h|h
 .have:l=0\/l=1:=by omega
  rcases this with rfl|rfl
  .exact hu.2 0 hz.1 (F.r0 b hr)
  .rcases F.r1 b hr with h|h|h
   .exact hu.2 1 hz.2 h
   .exact hu.1 h
   .omega
 .exact ho (.inr (.inl ⟨l,h,hlv,hr⟩))
inductive PK where
 |ptr
 |hsl
 |mp
structure Pend where
 d:Nat
 k:PK
 sz:Nat
 rows:List (List V)
def KindOK (k:PK)(L:Loc)(n:Nat)(v:Value):Prop:=
 match k with
 |.ptr=>n=1/\∃ b,L.blk=some b/\L.sz≠0/\v=.pointer (some ⟨b,0,none⟩)
 |.hsl=>HSL L 0 n v
 |.mp=>n=1/\∃ b,L.blk=some b/\L.sz=0/\v=.map (some b)
def PendOK (C:Ctx)(w:World)(a:Act)(p:Pend)(L:Loc):Prop:=Priv C w L p.rows/\L.sz=p.sz/\KindOK p.k L p.rows.length (a.tmps.getD p.d undef)
def St.adopt:St->Pend->St
 |⟨env,heap,nx,n,lv⟩,⟨d,.ptr,sz,rows⟩=>⟨(d,.ptr nx 1 0 0)::env,(nx,⟨sz,rows⟩)::heap,nx+1,n,lv⟩
 |⟨env,heap,nx,n,lv⟩,⟨d,.hsl,sz,rows⟩=>⟨(d,.hsl nx 0 rows.length)::env,(nx,⟨sz,rows⟩)::heap,nx+1,n,lv⟩
 |⟨env,heap,nx,n,lv⟩,⟨d,.mp,sz,rows⟩=>⟨(d,.mp nx 1)::env,(nx,⟨sz,rows⟩)::heap,nx+1,n,lv⟩
def St.adopts:St->List Pend->St
 |s,[]=>s
 |s,p::r=>(s.adopt p).adopts r
theorem ac7 {C:Ctx}{w:World}{h:List (Nat×HB)}(H:HSt C w h)(L:Loc):Ext C (C.set C.nx L (C.nx+1)) w w:=
 ⟨Nat.le_succ _,fun u L' hu h'=>by
  simp only [Ctx.set]at h';rw [if_neg (by omega)]at h';exact ⟨L',h',.inl rfl⟩,fun _ _ h=>h,fun _ _ _ _ h=>⟨h,rfl⟩⟩
structure PrivS (C:Ctx) (w:World) (L:Loc) (S:List Nat) (rows:List (List V)):Prop where
 blk:Blk C w L rows
 n:L.n=rows.length
 root:∀ b,L.blk=some b->Untr C b
 deep:Deep w L S rows
 nd:S.Nodup
 low:∀ b∈S,Untr C b/\L.blk≠some b/\b<w.heap.size
theorem yI {C:Ctx}{w:World}{h:List (Nat×HB)}(H:HSt C w h){L:Loc}{S:List Nat}{rows:List (List V)}(hp:PrivS C w L S rows):
 HSt ((C.set C.nx L (C.nx+1)).under C.nx S) w ((C.nx,⟨L.sz,rows⟩)::h)/\Ext C ((C.set C.nx L (C.nx+1)).under C.nx S) w w:=by
 obtain⟨hb,hn,hu,hd,hnd,hlow⟩:=hp;have E:Ext C ((C.set C.nx L (C.nx+1)).under C.nx S) w w:=by
  have E0:=ac7 (w:=w) H L;exact ⟨E0.nx,E0.loc,E0.lv,E0.reg⟩
 refine⟨?_,E⟩;have hloc:∀ u M,((C.set C.nx L (C.nx+1)).under C.nx S).loc u=some M->(u=C.nx/\M=L)\/(u≠C.nx/\C.loc u=some M):=fun u M h=>by
  simp only [Ctx.under,Ctx.set]at h;split at h
  .simp only [Option.some.injEq]at h;exact .inl ⟨by assumption,h.symm⟩
  .exact .inr ⟨by assumption,h⟩
 refine⟨fun u hx=>?_,fun u q hx=>?_,fun u M hM=>?_,fun u u' M M' b h1 h2 h3 h4=>?_,fun u M b l h1 h2 h3 h4=>?_,H.regs,fun l hl=>Nat.lt_succ_of_lt (H.lvs l hl),H.rdis,H.zero,Nat.lt_succ_of_lt H.two,?_,H.tabE E H.zero.1⟩
 .simp only [hget]at hx;rw [Bool.cond_eq_ite]at hx;split at hx
  .cases hx
  .rename_i hne;rw [Nat.beq_eq]at hne;simp only [Ctx.under,Ctx.set];rw [if_neg hne];exact H.dom u hx
 .simp only [hget]at hx;rw [Bool.cond_eq_ite]at hx;split at hx
  .rename_i he;rw [Nat.beq_eq]at he;simp only [Option.some.injEq]at hx;subst hx;subst he;exact ⟨L,by simp [Ctx.under,Ctx.set],rfl,hn,hb.mono E (fun _ _=>rfl)⟩
  .rename_i hne;rw [Nat.beq_eq]at hne;obtain ⟨M,e1,e2,e3,e4⟩:=H.ent u q hx;exact ⟨M,by simp [Ctx.under,Ctx.set,hne,e1],e2,e3,e4.mono E (fun _ _=>rfl)⟩
 .rcases hloc u M hM with ⟨rfl,_⟩|⟨_,h⟩
  .exact Nat.lt_succ_self _
  .exact Nat.lt_succ_of_lt (H.lt u M h)
 .rcases hloc u M h1 with ⟨e1,rfl⟩|⟨e1,g1⟩<;>rcases hloc u' M' h2 with ⟨e2,rfl⟩|⟨e2,g2⟩
  .rw [e1,e2]
  .exact absurd (.inl ⟨u',M',g2,h4⟩) (hu b h3).1
  .exact absurd (.inl ⟨u,M,g1,h3⟩) (hu b h4).1
  .exact H.inj u u' M M' b g1 g2 h3 h4
 .rcases hloc u M h1 with ⟨_,rfl⟩|⟨_,g1⟩
  .exact (hu b h2).2 l h3 h4
  .exact H.own u M b l g1 h2 h3 h4
 .have hnl:C.loc C.nx=none:=by
   cases hl:C.loc C.nx with
   |none=>rfl
   |some L=>have:=H.lt _ L hl;omega
  have hsub:∀ x b,b∈((C.set C.nx L (C.nx+1)).under C.nx S).sub x->(x=C.nx/\b∈S)\/(x≠C.nx/\b∈C.sub x):=fun x b h=>by
   simp only [Ctx.under,Ctx.set]at h;split at h
   .exact .inl ⟨by assumption,h⟩
   .exact .inr ⟨by assumption,h⟩
  refine⟨fun u q M hx hM=>?_,fun u hx=>?_,fun u=>?_,fun u b hb=>?_,fun u b u' M hb h1 h2=>?_,fun u u' b hb hb'=>?_,fun u b l hb h1 h2=>?_⟩
  .simp only [hget]at hx;rw [Bool.cond_eq_ite]at hx;rcases hloc u M hM with ⟨rfl,rfl⟩|⟨e1,hM'⟩
   .rw [if_pos (by simp)]at hx;simp only [Option.some.injEq]at hx;subst hx;simp only [Ctx.under,if_pos];exact hd
   .rw [if_neg (by rw [Nat.beq_eq];exact e1)]at hx;simp only [Ctx.under];rw [if_neg e1];exact H.sub.dp u q M hx hM'
  .simp only [Ctx.under,Ctx.set]at hx |-;split at hx
   .cases hx
   .rename_i e1;rw [if_neg e1];exact H.sub.s0 u hx
  .simp only [Ctx.under];split
   .exact hnd
   .exact H.sub.nd u
  .rcases hsub u b hb with ⟨_,hb⟩|⟨_,hb⟩
   .exact (hlow b hb).2.2
   .exact H.sub.lt u b hb
  .rcases hsub u b hb with ⟨_,hb⟩|⟨_,hb⟩
   .rcases hloc u' M h1 with ⟨_,e⟩|⟨_,h1⟩
    .exact (hlow b hb).2.1 (by rw [<- e];exact h2)
    .exact (hlow b hb).1.1 (.inl ⟨u',M,h1,h2⟩)
   .rcases hloc u' M h1 with ⟨_,e⟩|⟨_,h1⟩
    .exact (hu b (by rw [<- e];exact h2)).1 (.inr (.inr ⟨u,hb⟩))
    .exact H.sub.root u b u' M hb h1 h2
  .rcases hsub u b hb with ⟨e1,hb⟩|⟨_,hb⟩<;>rcases hsub u' b hb' with ⟨e2,hb'⟩|⟨_,hb'⟩
   .rw [e1,e2]
   .exact ((hlow b hb).1.1 (.inr (.inr ⟨u',hb'⟩))).elim
   .exact ((hlow b hb').1.1 (.inr (.inr ⟨u,hb⟩))).elim
   .exact H.sub.dis u u' b hb hb'
  .rcases hsub u b hb with ⟨_,hb⟩|⟨_,hb⟩
   .exact (hlow b hb).1.2 l h1 h2
   .exact H.sub.reg u b l hb h1 h2
theorem under_nil {C:Ctx}{w:World}{h:List (Nat×HB)}(H:HSt C w h)(L:Loc):(C.set C.nx L (C.nx+1)).under C.nx []=C.set C.nx L (C.nx+1):=by
 have hnl:C.loc C.nx=none:=by
  cases hl:C.loc C.nx with
  |none=>rfl
  |some L=>have:=H.lt _ L hl;omega
 have:(fun x=>if x=C.nx then []else C.sub x)=C.sub:=by
  funext x;split
  .rename_i e;rw [e,H.sub.s0 _ hnl]
  .rfl
 simp only [Ctx.under,Ctx.set,this]
theorem hst_adopt {C:Ctx}{w:World}{h:List (Nat×HB)}(H:HSt C w h){L:Loc}{rows:List (List V)}(hp:Priv C w L rows):
 HSt (C.set C.nx L (C.nx+1)) w ((C.nx,⟨L.sz,rows⟩)::h):=by
 have:=(yI H (S:=[]) ⟨hp.1.1,hp.2.1,hp.2.2,hp.1.2,.nil,fun b hb=>by cases hb⟩).1;rw [under_nil H]at this;exact this
def Apart:List Loc->Prop
 | []=>True
 |L::r=>(∀ M∈r,∀ b,L.blk=some b->M.blk≠some b)/\Apart r
theorem ao4 {w:World}{a:Act}:∀(ps:List Pend) (Ls:List Loc) {C:Ctx} {s:St},StRep C w a s->ps.length=Ls.length->(∀ (i:Nat) p L,ps[i]? =some p->Ls[i]? =some L->PendOK C w a p L)->Apart Ls->
 ∃ C',StRep C' w a (s.adopts ps)/\C'.reg=C.reg/\C'.lv=C.lv/\(∀ u,u<12->C'.loc u=C.loc u)/\(∀ u M,C'.loc u=some M->C.loc u=some M\/M∈Ls)/\C'.sub=C.sub
 | [],Ls,C,s,hs,_,_,_=>⟨C,hs,rfl,rfl,fun _ _=>rfl,fun u M h=>.inl h,rfl⟩
 |p::ps,[],C,s,hs,hl,_,_=>by simp at hl
 |p::ps,L::Ls,C,s,hs,hl,hp,hap=>by
  obtain⟨q1,q2,q3⟩:=hp 0 p L rfl rfl;have H:=hs.heap;have hA:=hst_adopt H q1;have E:=ac7 H L;have hnx:C.nx=s.nx:=hs.nx;have hs1:StRep (C.set C.nx L (C.nx+1)) w a (s.adopt p):=by
   obtain⟨d,k,sz,rows⟩:=p;cases s with
   |mk env heap nx n lv=>
    subst hnx;dsimp only at q1 q2 q3 hA;rw [q2]at hA;cases k with
    |ptr=>
     refine⟨hs.defers,hs.size,rfl,fun j=>?_,hA,hs.lv⟩;simp only [St.adopt,eget];rw [Bool.cond_eq_ite];split
     .rename_i hj;rw [Nat.beq_eq]at hj;subst hj;refine .ptr (Nat.lt_succ_self _) fun L' hL'=>?_;simp only [Ctx.set,if_pos]at hL';simp only [Option.some.injEq]at hL';subst hL';have h2:L.n=rows.length:=q1.2.1;obtain ⟨q4,b,q5,q7,q6⟩:=q3;exact ⟨by omega,fun _=>⟨b,q5,q7,by rw [q6];simp⟩⟩
     .exact (hs.env j).mono E
    |mp=>
     refine⟨hs.defers,hs.size,rfl,fun j=>?_,hA,hs.lv⟩;simp only [St.adopt,eget];rw [Bool.cond_eq_ite];split
     .rename_i hj;rw [Nat.beq_eq]at hj;subst hj;refine .mp (Nat.lt_succ_self _) fun L' hL'=>?_;simp only [Ctx.set,if_pos]at hL';simp only [Option.some.injEq]at hL';subst hL';have h2:L.n=rows.length:=q1.2.1;obtain ⟨q4,b,q5,q7,q6⟩:=q3;exact ⟨by omega,fun _=>.inr ⟨rfl,b,q5,q7,q6⟩⟩
     .exact (hs.env j).mono E
    |hsl=>
     refine⟨hs.defers,hs.size,rfl,fun j=>?_,hA,hs.lv⟩;simp only [St.adopt,eget];rw [Bool.cond_eq_ite];split
     .rename_i hj;rw [Nat.beq_eq]at hj;subst hj;refine .hsl (Nat.lt_succ_self _) fun L' hL'=>?_;simp only [Ctx.set,if_pos]at hL';simp only [Option.some.injEq]at hL';subst hL';have h2:L.n=rows.length:=q1.2.1;exact ⟨by omega,fun _=>q3⟩
     .exact (hs.env j).mono E
  have hF:Fr C (C.set C.nx L (C.nx+1)) w w->True:=fun _=>trivial;obtain ⟨C',g1,g2,g3,g4,g5,g6⟩:=ao4 ps Ls hs1 (by simpa using hl) (fun i p' L' hi hi'=>by
   obtain⟨r1,r2,r3⟩:=hp (i+1) p' L' (by simpa using hi) (by simpa using hi');obtain ⟨t1,t2,t3⟩:=r1;refine ⟨⟨t1.mono E (fun _ _=>rfl),t2,fun b hb=>?_⟩,r2,r3⟩;refine ⟨fun ho=>?_,fun l hl hr=>(t3 b hb).2 l hl hr⟩;rcases ho with ⟨u,M,m1,m2⟩|ho
   .simp only [Ctx.set]at m1;split at m1
    .simp only [Option.some.injEq]at m1;subst m1;exact hap.1 L' (List.mem_of_getElem? hi') b m2 hb
    .exact (t3 b hb).1 (.inl ⟨u,M,m1,m2⟩)
   .exact (t3 b hb).1 (.inr ho)) hap.2
  refine⟨C',g1,g2,g3,fun u hu=>?_,fun u M h=>?_,g6⟩
  .rw [g4 u hu];have:=H.two;simp only [Ctx.set];rw [if_neg (by omega)]
  .rcases g5 u M h with h|h
   .simp only [Ctx.set]at h;split at h
    .simp only [Option.some.injEq]at h;subst h;exact .inr (by simp)
    .exact .inl h
   .exact .inr (List.mem_cons_of_mem _ h)
end Go.Abs
namespace Go.Abs
def ONew (P:Program)(s:St)(o:Oper)(p:Pend):Prop:=
 ∀ C w a,StRep C w a s->∀(K:Act->World->Prop) (Q:Exit->Act->World->Prop),
  (∀ C' w' v L,Priv C' w' L p.rows->L.sz=p.sz->KindOK p.k L p.rows.length v->(∀ b,L.blk=some b->w.heap.size<=b)->Ext C C' w w'->Fr C C' w w'->HSt C' w' s.heap->C'.nx=C.nx->(∀ l,C.lv l->C'.lv l)->K (a.put o.dst v) w')->o.wp P a w K Q
def Away (b:Nat)(w w':World):Prop:=w'.heap.size=w.heap.size/\(∀ c,c≠b->w'.heap[c]? =w.heap[c]?)/\w'.os=w.os/\w'.output=w.output
def OSto (P:Program)(s:St)(o:Oper)(t:Nat)(row:List V):Prop:=
 ∀ C w a,StRep C w a s->∀ L b r0,BlkF C w L [r0]->L.sz≠0/\L.sz=row.length->L.blk=some b->a.tmps.getD t undef=.pointer (some ⟨b,0,none⟩)->Untr C b->∀(K:Act->World->Prop) (Q:Exit->Act->World->Prop),
  (∀ w' v,Away b w w'->BlkF C w' L [row]->K (a.put o.dst v) w')->o.wp P a w K Q
inductive Yld where
 |val (x:V)
 |new (p:Pend)
 |sto (t:Nat) (row:List V)
def Yld.v:Yld->V
 |.val x=>x
 |.new _=>.junk
 |.sto _ _=>.junk
def Yld.p:Yld->Option Pend
 |.val _=>none
 |.new p=>some p
 |.sto _ _=>none
def OYieldN (P:Program)(ops:List Oper)(o:Oper)(s:St):Yld->Prop
 |.val x=>OYield P ops o s x
 |.new p=>gd ops (s.only (gSlots ops o)) o.guard=some true/\o.dst=some p.d/\ONew P (s.only (opSlots o)) o p
 |.sto t row=>gd ops (s.only (gSlots ops o)) o.guard=some true/\o.dst=none/\t∈opSlots o/\OSto P (s.only (opSlots o)) o t row
theorem al6 {P:Program}{ops:List Oper}{o:Oper}{s s':St}{y:Yld}(he:∀ t∈opSlots o++gSlots ops o,eget s.env t=eget s'.env t)(hh:s.heap=s'.heap)(hx:s.nx=s'.nx)(hn:s.n=s'.n)(hl:s.lv=s'.lv)
 (h:OYieldN P ops o s y):OYieldN P ops o s' y:=by
 cases y with
 |val x=>exact aq6 he hh hx hn hl h
 |new p=>
  obtain⟨h1,h2,h3⟩:=h;refine ⟨?_,h2,?_⟩
  .rw [<- fR (gSlots ops o) (fun t ht=>he t (List.mem_append.2 (.inr ht))) hh hx hn hl];exact h1
  .rw [<- fR (opSlots o) (fun t ht=>he t (List.mem_append.2 (.inl ht))) hh hx hn hl];exact h3
 |sto t row=>
  obtain⟨h1,h2,h4,h3⟩:=h;refine ⟨?_,h2,h4,?_⟩
  .rw [<- fR (gSlots ops o) (fun t ht=>he t (List.mem_append.2 (.inr ht))) hh hx hn hl];exact h1
  .rw [<- fR (opSlots o) (fun t ht=>he t (List.mem_append.2 (.inl ht))) hh hx hn hl];exact h3
theorem away_ext {C:Ctx}{b:Nat}{w w':World}(A:Away b w w')(hu:Untr C b):Ext C C w w':=
 ⟨Nat.le_refl _,fun u L' _ h'=>⟨L',h',.inl rfl⟩,fun _ _ h=>h,fun l c _ hl hr=>⟨hr,A.2.1 c (fun e=>hu.2 l hl (e ▸ hr))⟩⟩
theorem away_rep {C:Ctx}{b:Nat}{w w':World}{a:Act}{s:St}(A:Away b w w')(hu:Untr C b)(hs:StRep C w a s):StRep C w' a s:=by
 have E:=away_ext A hu;have H:=hs.heap;refine ⟨hs.defers,hs.size,hs.nx,fun i=>(hs.env i).mono E,⟨H.dom,fun u q hq=>?_,H.lt,H.inj,H.own,fun l c h1 h2=>?_,H.lvs,H.rdis,H.zero,H.two,?_,H.tabE E H.zero.1⟩,hs.lv⟩
 .obtain ⟨M,e1,e2,e3,e4⟩:=H.ent u q hq;exact ⟨M,e1,e2,e3,e4.mono E (fun c hc=>A.2.1 c (fun e=>hu.1 (.inl ⟨u,M,e1,e ▸ hc⟩)))⟩
 .rw [A.1];exact H.regs l c h1 h2
 .exact H.sub.step (fun u=>.inl rfl) H.sub.s0 (by rw [A.1];exact Nat.le_refl _) (fun u L b h1 h2=>.inl ⟨u,L,h1,h2⟩) (fun l b h1 h2=>.inl ⟨h1,h2⟩) (fun u q L hx h1=>H.sub.old hx h1 (fun c hc=>A.2.1 c (fun e=>hu.1 (.inl ⟨u,L,h1,e ▸ hc⟩))) (fun c hc=>A.2.1 c (fun e=>hu.1 (.inr (.inr ⟨u,e ▸ hc⟩)))))
theorem away_fr {C0 C:Ctx}{b:Nat}{w0 w w':World}(A:Away b w w')(hb:w0.heap.size<=b\/Own C0 b)(F:Fr C0 C w0 w):Fr C0 C w0 w':=
 ⟨by rw [A.1];exact F.size,fun c h1 h2=>by rw [A.2.1 c (fun e=>by subst e;rcases hb with h|h;omega;exact h2 h)];exact F.keep c h1 h2,F.own,F.r0,F.r1,A.2.2.1.trans F.os,A.2.2.2.trans F.out,F.low⟩
def ADN (P:Program)(ops:List Oper):List Oper->St->(List (Option Nat×Yld)->St->Prop)->Prop
 | [],s,K=>K [] s
 |o::r,s,K=>∃ y s1,OYieldN P ops o s y/\s.put o.dst y.v=some s1/\ADN P ops r s1 (fun l=>K ((o.dst,y)::l))
def vals (L:List (Option Nat×Yld)):List (Option Nat×V):=L.map fun p=>(p.1,p.2.v)
theorem adn_spec {P:Program}{ops:List Oper}:∀(l:List Oper) (s:St) (K:List (Option Nat×Yld)->St->Prop),ADN P ops l s K->
 ∃ L sf,K L sf/\L.length=l.length/\(∀ t,eget sf.env t=after (eget s.env) (vals L) t)/\SameBut sf s/\
  ∀ j o,l[j]? =some o->∃ p sj,L[j]? =some p/\p.1=o.dst/\OYieldN P ops o sj p.2/\(∀ t,eget sj.env t=after (eget s.env) (vals (L.take j)) t)/\SameBut sj s/\(∀ u,o.dst=some u->u<s.n)
 | [],s,K,h=>⟨[],s,h,rfl,fun _=>rfl,⟨rfl,rfl,rfl,rfl⟩,fun j o hj=>by simp at hj⟩
 |o::r,s,K,h=>by
  obtain⟨x,s1,h1,h2,h3⟩:=h;obtain ⟨L,sf,g1,g2,g3,g4,g5⟩:=adn_spec r s1 _ h3;obtain ⟨p1,p2,p3,p4,p5,p6⟩:=sK h2;have hE:eget s1.env=fun u=>if o.dst=some u then x.v else eget s.env u:=funext p1
  refine⟨(o.dst,x)::L,sf,g1,by simp [g2],fun t=>by rw [g3 t,hE];rfl,⟨g4.heap.trans p2,g4.nx.trans p3,g4.n.trans p4,g4.lv.trans p5⟩,fun j o' hj=>?_⟩;cases j with
  |zero=>
   simp at hj;subst hj;exact ⟨_,s,by simp;rfl,rfl,h1,fun t=>by simp [after,vals],⟨rfl,rfl,rfl,rfl⟩,p6⟩
  |succ j=>
   obtain⟨p,sj,q1,q2,q3,q4,q5,q6⟩:=g5 j o' (by simpa using hj);exact ⟨p,sj,by simpa using q1,q2,q3,fun t=>by rw [q4 t,hE];rfl,⟨q5.heap.trans p2,q5.nx.trans p3,q5.n.trans p4,q5.lv.trans p5⟩,fun u hu=>by rw [<- p4];exact q6 u hu⟩
section
variable {P:Program} {ops:List Oper} {m:Nat}
def cur (sm:Nat->Option (Nat×List V))(listed:Array Bool)(i:Nat)(p:Pend):Pend:=
 match sm i with
 |some (k,row)=>if listed.getD k false=true then{ p with rows:=[row] }else p
 |none=>p
theorem cur_core (sm:Nat->Option (Nat×List V))(listed:Array Bool)(i:Nat)(p:Pend):(cur sm listed i p).d=p.d/\(cur sm listed i p).k=p.k/\(cur sm listed i p).sz=p.sz:=by
 unfold cur;split
 .split<;>simp
 .simp
def here (m:Nat)(listed:Array Bool)(i:Nat):Bool:=bif Nat.blt i m then listed.getD i false else true
def plx (m:Nat)(yl:Nat->Yld)(ini:Nat->Option Pend)(i:Nat):Option Pend:=bif Nat.blt i m then(yl i).p else ini i
theorem yG {m i:Nat}{listed:Array Bool}(h:i<m):here m listed i=listed.getD i false:=by unfold here;rw [show Nat.blt i m=true by simpa using h];rfl
theorem af3 {m i:Nat}{listed:Array Bool}(h:m<=i):here m listed i=true:=by unfold here;rw [show Nat.blt i m=false from Bool.eq_false_iff.2 (by rw [ne_eq,Nat.blt_eq];omega)];rfl
theorem tE {m i:Nat}{yl:Nat->Yld}{ini:Nat->Option Pend}(h:i<m):plx m yl ini i=(yl i).p:=by unfold plx;rw [show Nat.blt i m=true by simpa using h];rfl
theorem pO {m i:Nat}{yl:Nat->Yld}{ini:Nat->Option Pend}(h:m<=i):plx m yl ini i=ini i:=by unfold plx;rw [show Nat.blt i m=false from Bool.eq_false_iff.2 (by rw [ne_eq,Nat.blt_eq];omega)];rfl
theorem here_set {m i j:Nat}{listed:Array Bool}(h:j≠i):here m (listed.setIfInBounds i true) j=here m listed j:=by
 unfold here;rw [getD_set_ne false (fun e=>h e.symm)]
def Made (m:Nat)(pl:Nat->Option Pend)(sm:Nat->Option (Nat×List V))(B:Nat->Prop)(listed:Array Bool)(C:Ctx)(w:World)(a:Act):Prop:=
 ∃ Lf:Nat->Loc,(∀ i p,pl i=some p->here m listed i=true->PendOK C w a (cur sm listed i p) (Lf i)/\∀ b,(Lf i).blk=some b->B b)/\
  ∀ i j p q,i≠j->pl i=some p->pl j=some q->here m listed i=true->here m listed j=true->∀ b,(Lf i).blk=some b->(Lf j).blk≠some b
theorem au0 {a:Act}{d:Nat}{x:Option Nat}{v:Value}(h:x≠some d):(a.put x v).tmps.getD d undef=a.tmps.getD d undef:=by
 cases x with
 |none=>rfl
 |some x=>
  have hne:x≠d:=fun e=>h (by rw [e]);simp only [Act.put,Array.getD_eq_getD_getElem?];rw [Array.getElem?_setIfInBounds_ne hne]
def Bk (C0:Ctx)(w0:World)(b:Nat):Prop:=w0.heap.size<=b\/Own C0 b
theorem ae5 {s0:St}{yl:Nat->Yld}{ini:Nat->Option Pend}{sm:Nat->Option (Nat×List V)}{C0:Ctx}{w0:World}{Q:Exit->Act->World->Prop}{g:Nat}(hok:drawOk ops m=true)
 (hI:∀ i p,m<=i->ini i=some p->∀ j,j<m->dstAt ops j≠some p.d) (hID:∀ i j p q,m<=i->m<=j->ini i=some p->ini j=some q->p.d=q.d->i=j)
 (hy:∀ i o,i<m->ops[i]? =some o->∃ si,OYieldN P ops o si (yl i)/\SameBut si s0/\(∀ u,o.dst=some u->u<s0.n)/\
  (∀ t,(∀ j,j<m->dstAt ops j=some t->j<i->eget si.env t=(yl j).v)/\((∀ j,j<m->dstAt ops j=some t->¬ j<i)->eget si.env t=eget s0.env t)))
 (hS1:∀ k t row,k<m->yl k=.sto t row->∃ i p,((i<k/\yl i=.new p)\/(m<=i/\ini i=some p))/\p.d=t/\p.k=.ptr/\p.sz=row.length/\sm i=some (k,row))
 (hS2:∀ i k row,sm i=some (k,row)->k<m/\∃ p,((i<k/\yl i=.new p)\/(m<=i/\ini i=some p))/\yl k=.sto p.d row)
 (hend:∀ listed C w a s,StRep C w a s->Fr C0 C w0 w->Cur ops m (fun i=>(yl i).v) s0 listed s->Made m (plx m yl ini) sm (Bk C0 w0) listed C w a->LInv ops listed->(∀ i,i<m->listed.getD i false=true)->(∀ i,m<=i->i<ops.length->listed.getD i true=false)->wpAny P .any ⟨ops⟩ Q g listed a w):
 ∀(f:Nat) (listed:Array Bool) C w a s,((List.range m).filter fun i=>!listed.getD i false).length=f->StRep C w a s->Fr C0 C w0 w->Cur ops m (fun i=>(yl i).v) s0 listed s->Made m (plx m yl ini) sm (Bk C0 w0) listed C w a->LInv ops listed->(∀ i,m<=i->i<ops.length->listed.getD i true=false)->
  wpAny P .any ⟨ops⟩ Q (f+g) listed a w
 |0,listed,C,w,a,s,hf,hs,hF,hc,hM,inv,hno=>by
  rw [Nat.zero_add];refine hend listed C w a s hs hF hc hM inv (fun i hi=>?_) hno;have:=List.filter_eq_nil_iff.1 (List.length_eq_zero_iff.1 hf) i (List.mem_range.2 hi);simpa using this
 |f+1,listed,C,w,a,s,hf,hs,hF,hc,hM,inv,hno=>by
  obtain⟨c1,c2,c3,c4,c5⟩:=chkAnd hok;rw [show f+1+g=(f+g)+1 by omega];have hex:∃ i,i<m/\listed.getD i false=false:=by
   cases hl:(List.range m).filter fun i=>!listed.getD i false with
   |nil=>rw [hl]at hf;simp at hf
   |cons i r=>
    have:i∈(List.range m).filter fun i=>!listed.getD i false:=by rw [hl];simp
    have:=List.mem_filter.1 this;exact ⟨i,List.mem_range.1 this.1,by simpa using this.2⟩
  obtain⟨i0,hi0,hl0⟩:=hex;obtain ⟨j0,_,hj0⟩:=tY inv c1 i0 (by omega) hl0;refine ⟨fun h0=>by rw [h0]at hj0;simp at hj0,fun i hi=>?_⟩;obtain ⟨i1,i2,i3⟩:=gV hi;have hil:listed.getD i false=false:=by rwa [nP (by rw [inv.size];exact i2)]at i1
  have him:i<m:=by
   rcases Nat.lt_or_ge i m with h|h
   .exact h
   .have:=ak3 inv c4 hi h (i:=i0) (by omega);rw [hl0]at this;cases this
  have hoi:ops[i]? =some ops[i]:=List.getElem?_eq_getElem i2;have hop:(⟨ops⟩:Array Oper)[i]? =some ops[i]:=by simp [i2]
  obtain⟨si,y1,y2,y3,y4⟩:=hy i ops[i] him hoi;have hdi:dstAt ops i=ops[i].dst:=by simp [dstAt,hoi]
  have hsame:∀ t∈opSlots ops[i]++gSlots ops ops[i],eget si.env t=eget s.env t:=fun t ht=>by
   by_cases hw:∃ j,j<m/\dstAt ops j=some t
   .obtain ⟨j,hj,hjt⟩:=hw;have huniq:∀ j',j'<m->dstAt ops j'=some t->j'=j:=fun j' h1 h2=>aF c3 h1 hj h2 hjt;have hn:needs ops i=opSlots ops[i]++gSlots ops ops[i]:=by simp [needs,hoi]
    have hck:=List.all_eq_true.1 (List.all_eq_true.1 (List.all_eq_true.1 c2 i (List.mem_range.2 him)) t (by rw [hn];exact ht)) j (List.mem_range.2 hj);simp only [Bool.or_eq_true,Bool.not_eq_true',hjt]at hck;rcases Nat.lt_trichotomy j i with hlt|heq|hgt
    .have hja:anc ops ops.length i j=true:=by
      rcases hck with (h|h)|h
      .rw [Nat.beq_eq]at h;omega
      .simp at h
      .rwa [show Nat.blt j i=true from by simpa using hlt]at h
     have hjl:=bP inv _ i j i3 hja;rw [(y4 t).1 j hj hjt hlt,hc.on j t hj hjt hjl]
    .subst heq;rw [(y4 t).2 (fun j' h1 h2=>by rw [huniq j' h1 h2];omega),hc.off t (fun j' h1 h2=>by rw [huniq j' h1 h2];exact hil)]
    .have hja:anc ops ops.length j i=true:=by
      rcases hck with (h|h)|h
      .rw [Nat.beq_eq]at h;omega
      .simp at h
      .rwa [show Nat.blt j i=false from Bool.eq_false_iff.2 (by rw [ne_eq,Nat.blt_eq];omega)]at h
     have hjl:listed.getD j false=false:=by
      cases hjl:listed.getD j false with
      |false=>rfl
      |true=>
       have:=bP inv _ j i (fun k hk=>inv.closed j k hjl hk) hja;rw [hil]at this;cases this
     rw [(y4 t).2 (fun j' h1 h2=>by rw [huniq j' h1 h2];omega),hc.off t (fun j' h1 h2=>by rw [huniq j' h1 h2];exact hjl)]
   .have hnone:∀ j,j<m->dstAt ops j=some t->False:=fun j h1 h2=>hw ⟨j,h1,h2⟩;rw [(y4 t).2 (fun j h1 h2=>(hnone j h1 h2).elim),hc.off t (fun j h1 h2=>(hnone j h1 h2).elim)]
  have hyi:OYieldN P ops ops[i] s (yl i):=al6 hsame (y2.heap.trans hc.mt.heap.symm) (y2.nx.trans hc.mt.nx.symm) (y2.n.trans hc.mt.n.symm) (y2.lv.trans hc.mt.lv.symm) y1;obtain ⟨s1,hs1⟩:=put_of (s:=s) (d:=ops[i].dst) (x:=(yl i).v) (fun u hu=>by rw [hc.mt.n];exact y3 u hu);obtain ⟨p1,p2,p3,p4,p5,p6⟩:=sK hs1;have hcur:Cur ops m (fun i=>(yl i).v) s0 (listed.setIfInBounds i true) s1:=by
   refine⟨fun j t hj hjt hl=>?_,fun t ht=>?_,⟨p2.trans hc.mt.heap,p3.trans hc.mt.nx,p4.trans hc.mt.n,p5.trans hc.mt.lv⟩⟩
   .rw [p1 t];by_cases hji:j=i
    .subst hji;rw [if_pos (by rw [<- hdi];exact hjt)]
    .rw [getD_set_ne false (fun e=>hji e.symm)]at hl;rw [if_neg (fun e=>hji (aF c3 hj him hjt (by rw [hdi];exact e)))];exact hc.on j t hj hjt hl
   .rw [p1 t];have hne:¬ ops[i].dst=some t:=fun e=>by
     have:=ht i him (by rw [hdi];exact e);simp [inv.size,i2]at this
    rw [if_neg hne];refine hc.off t (fun j hj hjt=>?_);have hji:j≠i:=fun e=>by subst e;exact hne (by rw [<- hdi];exact hjt)
    have:=ht j hj hjt
    rwa [getD_set_ne false (fun e=>hji e.symm)]at this
  have hinv2:=inv.set hi;have hcnt:((List.range m).filter fun j=>!(listed.setIfInBounds i true).getD j false).length=f:=by
   have:=count_set m i (fun j=>!listed.getD j false) (fun j=>!(listed.setIfInBounds i true).getD j false) him (by simp [hil]) (by simp [inv.size,i2]) (fun j hj=>by rw [getD_set_ne false (fun e=>hj e.symm)]);omega
  have hno2:∀ j,m<=j->j<ops.length->(listed.setIfInBounds i true).getD j true=false:=fun j h1 h2=>by rw [getD_set_ne true (by omega)];exact hno j h1 h2
  have next:∀ C' w' a',StRep C' w' a' s1->Fr C0 C' w0 w'->Made m (plx m yl ini) sm (Bk C0 w0) (listed.setIfInBounds i true) C' w' a'->wpAny P .any ⟨ops⟩ Q (f+g) (listed.setIfInBounds i true) a' w':=fun C' w' a' h1 h2 h3=>
   ae5 hok hI hID hy hS1 hS2 hend f _ C' w' a' s1 hcnt h1 h2 hcur h3 hinv2 hno2
  have hz:C.lv 0/\C.lv 1:=⟨hs.heap.zero.1,hs.heap.zero.2.1⟩
  have hcs:∀ j p,(∀ t row,yl i≠ .sto t row)->cur sm (listed.setIfInBounds i true) j p=cur sm listed j p:=fun j p hns=>by
   unfold cur;split
   .rename_i k row hk;obtain ⟨_,p',_,h2⟩:=hS2 j k row hk;rw [getD_set_ne false (fun e=>hns p'.d row (by rw [e];exact h2))]
   .rfl
  have stay:∀ C' w' v,Ext C C' w w'->Fr C C' w w'->∀ Lf:Nat->Loc,∀ j p,j≠i->plx m yl ini j=some p->(∀ t row,yl i≠ .sto t row)->(PendOK C w a (cur sm listed j p) (Lf j)/\∀ b,(Lf j).blk=some b->Bk C0 w0 b)->PendOK C' w' (a.put ops[i].dst v) (cur sm (listed.setIfInBounds i true) j p) (Lf j)/\∀ b,(Lf j).blk=some b->Bk C0 w0 b:=fun C' w' v E F Lf j p hji hp hns h=>by
   rw [hcs j p hns];refine ⟨⟨h.1.1.mono hz E F,h.1.2.1,?_⟩,h.2⟩;rcases Nat.lt_or_ge j m with hj|hj;rotate_left
   .rw [pO hj]at hp;rw [au0 (fun e=>hI j p hj hp i him (by rw [hdi,e,(cur_core sm listed j p).1]))];exact h.1.2.2
   rw [tE hj]at hp;have hjl:j<ops.length:=by omega
   obtain⟨sj,z1,_,_,_⟩:=hy j ops[j] hj (List.getElem?_eq_getElem hjl);have hdj:ops[j].dst=some p.d:=by
    cases hyj:yl j with
    |val x=>rw [hyj]at hp;cases hp
    |new p'=>
     rw [hyj]at hp z1;simp only [Yld.p,Option.some.injEq]at hp;subst hp;exact z1.2.1
    |sto t row=>rw [hyj]at hp;cases hp
   rw [<- (cur_core sm listed j p).1]at hdj;rw [au0 (fun e=>hji (aF c3 hj him (t:=(cur sm listed j p).d) (by simp [dstAt,List.getElem?_eq_getElem hjl,hdj]) (by rw [hdi];exact e)))];exact h.1.2.2
  obtain⟨Lf,m1,m2⟩:=hM;have hlst:∀ j,j≠i->here m (listed.setIfInBounds i true) j=here m listed j:=fun j hj=>here_set hj;have hpi:plx m yl ini i=(yl i).p:=tE him;unfold wpOp;rw [hop];simp only;cases hyl:yl i with
  |val x=>
   rw [hyl]at hyi hs1;have made:∀ C' w' v,Ext C C' w w'->Fr C C' w w'->Made m (plx m yl ini) sm (Bk C0 w0) (listed.setIfInBounds i true) C' w' (a.put ops[i].dst v):=fun C' w' v E F=>by
    refine⟨Lf,fun j p hp hl=>?_,fun j k p q hjk hp hq hlj hlk=>?_⟩
    .have hji:j≠i:=fun e=>by subst e;simp [hpi,hyl,Yld.p]at hp
     rw [hlst j hji]at hl;exact stay C' w' v E F Lf j p hji hp (fun t row=>by rw [hyl];simp) (m1 j p hp hl)
    .have hji:j≠i:=fun e=>by subst e;simp [hpi,hyl,Yld.p]at hp
     have hki:k≠i:=fun e=>by subst e;simp [hpi,hyl,Yld.p]at hq
     rw [hlst j hji]at hlj;rw [hlst k hki]at hlk;exact m2 j k p q hjk hp hq hlj hlk
   rcases hyi with ⟨hg,hr⟩|⟨hg,hx⟩
   .rw [if_pos (hO (ops:=⟨ops⟩) (cO hs _) hg)];refine .inl (hr C w a (cO hs _) _ Q (fun C' w' v r1 r2 r3 r4 r5 r6=>next C' w' _ ?_ (hF.trans r3) (made C' w' v r2 r3)));exact W2 ⟨hs.defers,hs.size,by rw [r5];exact hs.nx,fun k=>(hs.env k).mono r2,r4,fun l hl=>r6 l (hs.lv l hl)⟩ r1 hs1
   .rw [if_neg (by rw [hO (ops:=⟨ops⟩) (cO hs _) hg];simp)];have hs1':s.put ops[i].dst (.tup [])=some s1:=by rw [<- hx];exact hs1
    exact next C w _ (W2 hs (.tup .nil) hs1') hF (made C w _ (Ext.refl _ _) (Fr.refl _ _))
  |new p=>
   rw [hyl]at hyi hs1;obtain ⟨hg,hd,hr⟩:=hyi;rw [if_pos (hO (ops:=⟨ops⟩) (cO hs _) hg)];refine .inl (hr C w a (cO hs _) _ Q (fun C' w' v L q1 q2 q3 q4 r2 r3 r4 r5 r6=>next C' w' _ ?_ (hF.trans r3) ?_))
   .exact W2 (x:=.junk) ⟨hs.defers,hs.size,by rw [r5];exact hs.nx,fun k=>(hs.env k).mono r2,r4,fun l hl=>r6 l (hs.lv l hl)⟩ (.junk v) hs1
   .refine ⟨fun j=>if j=i then L else Lf j,fun j p' hp hl=>?_,fun j k p' q' hjk hp hq hlj hlk=>?_⟩
    .by_cases hji:j=i
     .subst hji;rw [hpi]at hp;simp only [hyl,Yld.p,Option.some.injEq]at hp;subst hp;simp only [if_pos];have hdn:p.d<s.n:=p6 _ (by rw [hd]);have hcj:cur sm (listed.setIfInBounds j true) j p=p:=by
       unfold cur;split
       .rename_i k row hk;obtain ⟨k1,p',k23,k4⟩:=hS2 j k row hk;obtain ⟨k2,k3⟩:=k23.resolve_right (fun h=>by omega);rw [hyl]at k3;simp only [Yld.new.injEq]at k3;subst k3;rw [getD_set_ne false (by omega)];have hkl:k<ops.length:=by omega
        obtain⟨sk,z1,_⟩:=hy k ops[k] k1 (List.getElem?_eq_getElem hkl);rw [k4]at z1;have hn:needs ops k=opSlots ops[k]++gSlots ops ops[k]:=by simp [needs,List.getElem?_eq_getElem hkl]
        have hck:=List.all_eq_true.1 (List.all_eq_true.1 (List.all_eq_true.1 c2 k (List.mem_range.2 k1)) p.d (by rw [hn];exact List.mem_append.2 (.inl z1.2.2.1))) j (List.mem_range.2 him);simp only [Bool.or_eq_true,Bool.not_eq_true',show dstAt ops j=some p.d by rw [hdi,hd]]at hck;have hja:anc ops ops.length k j=true:=by
         rcases hck with (h|h)|h
         .rw [Nat.beq_eq]at h;omega
         .simp at h
         .rwa [show Nat.blt j k=true from by simpa using k2]at h
        rw [if_neg];intro hkl;have:=bP inv _ k j (fun x hx=>inv.closed k x hkl hx) hja;rw [hil]at this;cases this
       .rfl
      rw [hcj];refine ⟨⟨q1,q2,?_⟩,fun b hb=>.inl (Nat.le_trans hF.size (q4 b hb))⟩;rw [hd];have:(a.put (some p.d) v).tmps.getD p.d undef=v:=by
       have:p.d<a.tmps.size:=by rw [hs.size];exact hdn
       simp [Act.put,Array.getD,this]
      rw [this];exact q3
     .rw [hlst j hji]at hl;simp only [if_neg hji];exact stay C' w' v r2 r3 Lf j p' hji hp (fun t row=>by rw [hyl];simp) (m1 j p' hp hl)
    .by_cases hji:j=i
     .have hki:k≠i:=fun e=>hjk (hji.trans e.symm);simp only [if_pos hji,if_neg hki];rw [hlst k hki]at hlk;intro b hb hb';have h1:=q4 b hb;have h2:=jY (m1 k q' hq hlk).1.1.1.1 hb';omega
     .rw [hlst j hji]at hlj;by_cases hki:k=i
      .simp only [if_neg hji,if_pos hki];intro b hb hb';have h1:=q4 b hb';have h2:=jY (m1 j p' hp hlj).1.1.1.1 hb;omega
      .rw [hlst k hki]at hlk;simp only [if_neg hji,if_neg hki];exact m2 j k p' q' hjk hp hq hlj hlk
  |sto t row=>
   rw [hyl]at hyi hs1;obtain ⟨hg,hd,ht,hr⟩:=hyi;obtain ⟨k,p,k12,k3,k4,k5,k6⟩:=hS1 i t row him hyl;have hpk0:plx m yl ini k=some p/\here m listed k=true/\k≠i/\∀ j p',j≠k->plx m yl ini j=some p'->p'.d≠t:=by
    rcases k12 with ⟨k1,k2⟩|⟨k1,k2⟩
    rotate_left
    .refine ⟨by rw [pO k1];exact k2,af3 k1,by omega,fun j p' hjk hp' e=>?_⟩;rcases Nat.lt_or_ge j m with hj|hj
     .rw [tE hj]at hp';have hjl:j<ops.length:=by omega
      obtain⟨sj,zz,_⟩:=hy j ops[j] hj (List.getElem?_eq_getElem hjl);cases hyj:yl j with
      |val x=>rw [hyj]at hp';cases hp'
      |sto t row=>rw [hyj]at hp';cases hp'
      |new p2=>
       rw [hyj]at hp' zz;simp only [Yld.p,Option.some.injEq]at hp';subst hp';exact hI k p k1 k2 j hj (by simp [dstAt,List.getElem?_eq_getElem hjl,zz.2.1,e,k3])
     .rw [pO hj]at hp';exact hjk (hID j k p' p hj k1 hp' k2 (by rw [e,k3]))
    have hkm:k<m:=by omega
    have hkl:k<ops.length:=by omega
    obtain⟨sk,z1,_⟩:=hy k ops[k] hkm (List.getElem?_eq_getElem hkl);rw [k2]at z1;have hdk:dstAt ops k=some t:=by simp [dstAt,List.getElem?_eq_getElem hkl,z1.2.1,k3]
    have hka:anc ops ops.length i k=true:=by
     have hn:needs ops i=opSlots ops[i]++gSlots ops ops[i]:=by simp [needs,hoi]
     have hck:=List.all_eq_true.1 (List.all_eq_true.1 (List.all_eq_true.1 c2 i (List.mem_range.2 him)) t (by rw [hn];exact List.mem_append.2 (.inl ht))) k (List.mem_range.2 hkm);simp only [Bool.or_eq_true,Bool.not_eq_true',hdk]at hck;rcases hck with (h|h)|h
     .rw [Nat.beq_eq]at h;omega
     .simp at h
     .rwa [show Nat.blt k i=true from by simpa using k1]at h
    refine⟨by rw [tE hkm,k2];rfl,by rw [yG hkm];exact bP inv _ i k i3 hka,by omega,fun j p' hjk hp' e=>?_⟩;rcases Nat.lt_or_ge j m with hj|hj
    .rw [tE hj]at hp';have hjl:j<ops.length:=by omega
     obtain⟨sj,zz,_⟩:=hy j ops[j] hj (List.getElem?_eq_getElem hjl);cases hyj:yl j with
     |val x=>rw [hyj]at hp';cases hp'
     |sto t row=>rw [hyj]at hp';cases hp'
     |new p2=>
      rw [hyj]at hp' zz;simp only [Yld.p,Option.some.injEq]at hp';subst hp';exact hjk (aF c3 hj hkm (t:=t) (by simp [dstAt,List.getElem?_eq_getElem hjl,zz.2.1,e]) hdk)
    .rw [pO hj]at hp';exact hI j p' hj hp' k hkm (by rw [hdk,e])
   obtain⟨hpk1,hkl2,hkne,huni⟩:=hpk0;obtain ⟨hpk,hbk⟩:=m1 k p hpk1 hkl2;have hck:cur sm listed k p=p:=by unfold cur;rw [k6];simp only;rw [if_neg (by rw [hil];simp)]
   rw [hck]at hpk;obtain ⟨⟨b1,b2,b3⟩,b4,b5⟩:=hpk;unfold KindOK at b5;rw [k4,k3]at b5;obtain ⟨b6,b,b7,b9,b8⟩:=b5;obtain ⟨r0,hr0⟩:∃ r0,p.rows=[r0]:=List.length_eq_one_iff.1 b6;rw [hr0]at b1;rw [if_pos (hO (ops:=⟨ops⟩) (cO hs _) hg)];have hu:=b3 b b7;refine .inl (hr C w a (cO hs _) (Lf k) b r0 b1 ⟨b9,b4.trans k5⟩ b7 b8 hu _ Q (fun w' v A B=>next C w' (a.put ops[i].dst v) ?_ (away_fr A (hbk b b7) hF) ?_))
   .exact W2 (x:=.junk) (away_rep A hu hs) (.junk v) hs1
   .have E:=away_ext A hu;refine ⟨Lf,fun j p' hp hl=>?_,fun j j' p' q' hjj hp hq hlj hlj'=>?_⟩
    .have hji:j≠i:=fun e=>by subst e;simp [hpi,hyl,Yld.p]at hp
     rw [hlst j hji]at hl;obtain ⟨q1,q2⟩:=m1 j p' hp hl;refine ⟨?_,q2⟩;by_cases hjk:j=k
     .subst hjk;rw [hpk1,Option.some.injEq]at hp;subst hp;have:cur sm (listed.setIfInBounds i true) j p={ p with rows:=[row] }:=by
       unfold cur;rw [k6];simp only;rw [if_pos (by simp [inv.size,i2])]
      rw [this];refine ⟨⟨B,by show(Lf j).n=1;rw [b2,hr0];rfl,b3⟩,b4,?_⟩;unfold KindOK;simp only [k4];refine ⟨rfl,b,b7,b9,?_⟩;rw [hd,k3];exact b8
     .have hne:∀ c,(Lf j).blk=some c->c≠b:=fun c hc e=>m2 j k p' p hjk hp hpk1 hl hkl2 b (e ▸ hc) b7;have hcj:cur sm (listed.setIfInBounds i true) j p'=cur sm listed j p':=by
       unfold cur;split
       .rename_i k' row' hk';obtain ⟨y0,p2,y1,y2⟩:=hS2 j k' row' hk';rw [getD_set_ne false (fun e=>?_)];rw [<- e,hyl]at y2;simp only [Yld.sto.injEq]at y2;refine huni j p2 hjk ?_ y2.1.symm;rcases y1 with ⟨y1,y3⟩|⟨y1,y3⟩
        .rw [tE (by omega),y3];rfl
        .rw [pO y1];exact y3
       .rfl
      rw [hcj];obtain ⟨⟨d1,d2,d3⟩,d4,d5⟩:=q1;refine ⟨⟨d1.mono E (fun c hc=>A.2.1 c (hne c hc)),d2,d3⟩,d4,?_⟩;rw [hd];exact d5
    .have hji:j≠i:=fun e=>by subst e;simp [hpi,hyl,Yld.p]at hp
     have hki:j'≠i:=fun e=>by subst e;simp [hpi,hyl,Yld.p]at hq
     rw [hlst j hji]at hlj;rw [hlst j' hki]at hlj';exact m2 j j' p' q' hjj hp hq hlj hlj'
def setP (pd:List Pend)(t:Nat)(row:List V):List Pend:=pd.map fun p=>bif Nat.beq p.d t then⟨p.d,p.k,p.sz,[row]⟩else p
def foldP:List Pend->List (Option Nat×Yld)->List Pend
 |pd,[]=>pd
 |pd,(_,.val _)::r=>foldP pd r
 |pd,(_,.new p)::r=>foldP (pd++[p]) r
 |pd,(_,.sto t row)::r=>foldP (setP pd t row) r
def PK.isPtr:PK->Bool
 |.ptr=>true
 |.hsl=>false
 |.mp=>false
def okL:List Pend->List Nat->List (Option Nat×Yld)->Bool
 |_,_,[]=>true
 |pd,st,(_,.val _)::r=>okL pd st r
 |pd,st,(_,.new p)::r=>okL (pd++[p]) st r
 |pd,st,(_,.sto t row)::r=>(pd.any fun p=>Nat.beq p.d t&&p.k.isPtr&&Nat.beq p.sz row.length)&&!(st.any fun u=>Nat.beq u t)&&okL (setP pd t row) (t::st) r
def stF:List Nat->List (Option Nat×Yld)->List Nat
 |st,[]=>st
 |st,(_,.val _)::r=>stF st r
 |st,(_,.new _)::r=>stF st r
 |st,(_,.sto t _)::r=>stF (t::st) r
theorem wV:∀(pre:List (Option Nat×Yld)) {r:List (Option Nat×Yld)} {pd:List Pend} {st:List Nat},okL pd st (pre++r)=true->okL (foldP pd pre) (stF st pre) r=true
 | [],_,_,_,h=>h
 |(_,.val _)::p,r,pd,st,h=>wV p (by simpa [okL]using h)
 |(_,.new _)::p,r,pd,st,h=>wV p (by simpa [okL]using h)
 |(_,.sto t row)::p,r,pd,st,h=>wV p (by simp only [List.cons_append,okL,Bool.and_eq_true]at h;exact h.2)
theorem au4:∀(pre:List (Option Nat×Yld)) {st:List Nat} {t:Nat},(t∈st\/∃(i:Nat) (d:Option Nat) (row:List V),pre[i]? =some (d,.sto t row))->t∈stF st pre
 | [],_,_,h=>by
  rcases h with h|⟨i,d,row,h⟩
  .exact h
  .simp at h
 |(_,.val _)::p,st,t,h=>au4 p (by
  rcases h with h|⟨i,d,row,h⟩
  .exact .inl h
  .cases i with
   |zero=>simp at h
   |succ i=>exact .inr ⟨i,d,row,by simpa using h⟩)
 |(_,.new _)::p,st,t,h=>au4 p (by
  rcases h with h|⟨i,d,row,h⟩
  .exact .inl h
  .cases i with
   |zero=>simp at h
   |succ i=>exact .inr ⟨i,d,row,by simpa using h⟩)
 |(_,.sto u _)::p,st,t,h=>au4 p (by
  rcases h with h|⟨i,d,row,h⟩
  .exact .inl (List.mem_cons_of_mem _ h)
  .cases i with
   |zero=>simp at h;exact .inl (by simp [h.2.1])
   |succ i=>exact .inr ⟨i,d,row,by simpa using h⟩)
theorem wQ:∀(pre:List (Option Nat×Yld)) {pd:List Pend} {p:Pend},p∈foldP pd pre->(∃ q∈pd,q.d=p.d/\q.k=p.k/\q.sz=p.sz)\/∃(i:Nat) (d:Option Nat) (q:Pend),pre[i]? =some (d,.new q)/\q.d=p.d/\q.k=p.k/\q.sz=p.sz
 | [],_,p,h=>.inl ⟨p,h,rfl,rfl,rfl⟩
 |(_,.val _)::l,pd,p,h=>by
  rcases wQ l (pd:=pd) (by simpa [foldP]using h)with h|⟨i,d,q,h⟩
  .exact .inl h
  .exact .inr ⟨i+1,d,q,by simpa using h⟩
 |(d0,.new q0)::l,pd,p,h=>by
  rcases wQ l (pd:=pd++[q0]) (by simpa [foldP]using h)with ⟨q,h1,h2⟩|⟨i,d,q,h⟩
  .rcases List.mem_append.1 h1 with h1|h1
   .exact .inl ⟨q,h1,h2⟩
   .simp at h1;subst h1;exact .inr ⟨0,d0,q,rfl,h2⟩
  .exact .inr ⟨i+1,d,q,by simpa using h⟩
 |(_,.sto t row)::l,pd,p,h=>by
  rcases wQ l (pd:=setP pd t row) (by simpa [foldP]using h)with ⟨q,h1,h2⟩|⟨i,d,q,h⟩
  .obtain ⟨q',g1,g2⟩:=List.mem_map.1 h1;refine .inl ⟨q',g1,?_⟩;rw [<- h2.1,<- h2.2.1,<- h2.2.2,<- g2];cases Nat.beq q'.d t<;>exact⟨rfl,rfl,rfl⟩
  .exact .inr ⟨i+1,d,q,by simpa using h⟩
def stoAt (d:Nat):List (Option Nat×Yld)->Nat->Option (Nat×List V)
 | [],_=>none
 |(_,.val _)::r,k=>stoAt d r (k+1)
 |(_,.new _)::r,k=>stoAt d r (k+1)
 |(_,.sto t row)::r,k=>if t=d then some (k,row)else stoAt d r (k+1)
theorem stoAt_at {d:Nat}{row:List V}:∀{r:List (Option Nat×Yld)} {j k:Nat} {x:Option Nat},r[j]? =some (x,.sto d row)->(∀ (i:Nat),i<j->∀ y row',r[i]? ≠some (y,.sto d row'))->stoAt d r k=some (k+j,row)
 | [],j,k,x,h,_=>by simp at h
 |(y,v)::r,0,k,x,h,_=>by
  simp only [List.length_cons,Nat.zero_lt_succ,List.getElem?_cons_zero,Option.some.injEq,Prod.mk.injEq]at h;rw [h.2];simp [stoAt]
 |(y,v)::r,j+1,k,x,h,hn=>by
  have ih:=stoAt_at (k:=k+1) (show r[j]? =some (x,.sto d row)by simpa using h) (fun i hi y row' e=>hn (i+1) (by omega) y row' (by simpa using e));cases v with
  |val _=>simp only [stoAt];rw [ih];congr 2;omega
  |new _=>simp only [stoAt];rw [ih];congr 2;omega
  |sto t row'=>
   have hne:¬ t=d:=fun e=>by subst e;exact hn 0 (by omega) y row' rfl
   simp only [stoAt];rw [if_neg hne,ih];congr 2;omega
theorem fC {d:Nat}{row:List V}:∀{r:List (Option Nat×Yld)} {k k':Nat},stoAt d r k=some (k',row)->∃ j x,k'=k+j/\r[j]? =some (x,.sto d row)
 | [],_,_,h=>by simp [stoAt]at h
 |(y,.val _)::r,k,k',h=>by
  obtain⟨j,x,h1,h2⟩:=fC (show stoAt d r (k+1)=_ from h);exact ⟨j+1,x,by omega,by simpa using h2⟩
 |(y,.new _)::r,k,k',h=>by
  obtain⟨j,x,h1,h2⟩:=fC (show stoAt d r (k+1)=_ from h);exact ⟨j+1,x,by omega,by simpa using h2⟩
 |(y,.sto t row')::r,k,k',h=>by
  simp only [stoAt]at h;split at h
  .rename_i e;simp only [Option.some.injEq,Prod.mk.injEq]at h;exact ⟨0,y,by omega,by simp [e,h.2]⟩
  .obtain ⟨j,x,h1,h2⟩:=fC h;exact ⟨j+1,x,by omega,by simpa using h2⟩
def finp:List (Option Nat×Yld)->Pend->Pend
 | [],p=>p
 |(_,.val _)::r,p=>finp r p
 |(_,.new _)::r,p=>finp r p
 |(_,.sto t row)::r,p=>finp r (bif Nat.beq p.d t then⟨p.d,p.k,p.sz,[row]⟩else p)
def pends:List (Option Nat×Yld)->List Pend
 | []=>[]
 |(_,.val _)::r=>pends r
 |(_,.new p)::r=>finp r p::pends r
 |(_,.sto _ _)::r=>pends r
theorem ac2:∀(L:List (Option Nat×Yld)) (pd:List Pend),foldP pd L=pd.map (finp L)++pends L
 | [],pd=>by simp [foldP,finp,pends]
 |(_,.val _)::r,pd=>by simp only [foldP,pends];rw [ac2 r];rfl
 |(_,.new p)::r,pd=>by simp only [foldP,pends];rw [ac2 r];simp [finp]
 |(_,.sto t row)::r,pd=>by simp only [foldP,pends];rw [ac2 r];simp only [setP,List.map_map];rfl
theorem vN:∀(r:List (Option Nat×Yld)) {pd:List Pend} {st:List Nat} {p:Pend},okL pd st r=true->p.d∈st->finp r p=p
 | [],_,_,_,_,_=>rfl
 |(_,.val _)::r,pd,st,p,h,hs=>vN r (pd:=pd) (by simpa [okL]using h) hs
 |(_,.new q)::r,pd,st,p,h,hs=>vN r (pd:=pd++[q]) (by simpa [okL]using h) hs
 |(_,.sto t row)::r,pd,st,p,h,hs=>by
  simp only [okL,Bool.and_eq_true,Bool.not_eq_true',List.any_eq_false]at h;have hne:Nat.beq p.d t=false:=by
   have:=h.1.2 _ hs;cases hb:Nat.beq p.d t with
   |false=>rfl
   |true=>exact absurd hb (by simpa using this)
  simp only [finp];rw [hne];exact vN r h.2 (List.mem_cons_of_mem _ hs)
theorem vO:∀(r:List (Option Nat×Yld)) (k:Nat) {pd:List Pend} {st:List Nat} {p:Pend},okL pd st r=true->finp r p=match stoAt p.d r k with |some (_,row)=>{ p with rows:=[row] }|none=>p
 | [],_,_,_,_,_=>rfl
 |(_,.val _)::r,k,pd,st,p,h=>vO r (k+1) (pd:=pd) (by simpa [okL]using h)
 |(_,.new q)::r,k,pd,st,p,h=>vO r (k+1) (pd:=pd++[q]) (by simpa [okL]using h)
 |(_,.sto t row)::r,k,pd,st,p,h=>by
  simp only [okL,Bool.and_eq_true]at h;simp only [finp,stoAt];by_cases ht:t=p.d
  .subst ht;rw [if_pos rfl,show Nat.beq p.d p.d=true by simp];exact vN r h.2 (by simp)
  .rw [if_neg ht,show Nat.beq p.d t=false by
    cases hb:Nat.beq p.d t with
    |false=>rfl
    |true=>exact absurd (Nat.eq_of_beq_eq_true hb).symm ht]
   exact vO r (k+1) h.2
theorem adopts_fr {C0 C C':Ctx}{w0 w:World}{Ls:List Loc}(F:Fr C0 C w0 w)(h1:C'.reg=C.reg)(h2:C'.lv=C.lv)(h3:∀ u,u<12->C'.loc u=C.loc u)(h4:∀ u M,C'.loc u=some M->C.loc u=some M\/M∈Ls)(h5:∀ L∈Ls,∀ b,L.blk=some b->Bk C0 w0 b)(h6:C'.sub=C.sub):Fr C0 C' w0 w where
 size:=F.size
 keep:=F.keep
 own b hb:=by
  rcases hb with ⟨u,M,g1,g2⟩|⟨l,g1,g2,g3⟩|⟨u,g1⟩
  .rcases h4 u M g1 with g|g
   .exact F.own b (.inl ⟨u,M,g,g2⟩)
   .exact (h5 M g b g2).symm
  .exact F.own b (.inr (.inl ⟨l,g1,by rw [<- h2];exact g2,by rw [<- h1];exact g3⟩))
  .exact F.own b (.inr (.inr ⟨u,by rw [<- h6];exact g1⟩))
 r0 b hb:=F.r0 b (by rw [<- h1];exact hb)
 r1 b hb:=F.r1 b (by rw [<- h1];exact hb)
 os:=F.os
 out:=F.out
 low u hu L' h:=F.low u hu L' (by rw [<- h3 u hu];exact h)
theorem pend_list {C:Ctx}{w:World}{a:Act}{B:Nat->Prop}{Lf:Nat->Loc}:∀(L:List (Option Nat×Yld)) (k:Nat),(∀ (i:Nat) x q,L[i]? =some (x,.new q)->PendOK C w a (finp (L.drop (i+1)) q) (Lf (k+i))/\∀ b,(Lf (k+i)).blk=some b->B b)->
 (∀ (i j:Nat) x y p q,i≠j->L[i]? =some (x,.new p)->L[j]? =some (y,.new q)->∀ b,(Lf (k+i)).blk=some b->(Lf (k+j)).blk≠some b)->
 ∃ Ls:List Loc,(pends L).length=Ls.length/\(∀ (i:Nat) p M,(pends L)[i]? =some p->Ls[i]? =some M->PendOK C w a p M)/\Apart Ls/\(∀ M∈Ls,∃ i x q,L[i]? =some (x,.new q)/\M=Lf (k+i))/\∀ M∈Ls,∀ b,M.blk=some b->B b
 | [],k,_,_=>⟨[],rfl,fun i p M h=>by simp [pends]at h,trivial,fun M h=>by simp at h,fun M h=>by simp at h⟩
 |(x0,v)::r,k,h1,h2=>by
  obtain⟨Ls,g1,g2,g3,g4,g5⟩:=pend_list r (k+1) (fun i x q hp=>by
   have:=h1 (i+1) x q (by simpa using hp);rw [show k+(i+1)=k+1+i by omega]at this;simpa using this) (fun i j x y p q hij hp hq b=>by
   have:=h2 (i+1) (j+1) x y p q (by omega) (by simpa using hp) (by simpa using hq) b;rw [show k+(i+1)=k+1+i by omega,show k+(j+1)=k+1+j by omega]at this;exact this)
  have old:pends ((x0,v)::r)=pends r->∃ Ls:List Loc,(pends ((x0,v)::r)).length=Ls.length/\(∀ (i:Nat) p M,(pends ((x0,v)::r))[i]? =some p->Ls[i]? =some M->PendOK C w a p M)/\Apart Ls/\(∀ M∈Ls,∃ i x q,((x0,v)::r)[i]? =some (x,.new q)/\M=Lf (k+i))/\∀ M∈Ls,∀ b,M.blk=some b->B b:=fun e=>by
   rw [e];refine ⟨Ls,g1,g2,g3,fun M hM=>?_,g5⟩;obtain ⟨i,x,q,q1,q3⟩:=g4 M hM;exact ⟨i+1,x,q,by simpa using q1,by rw [q3];congr 1;omega⟩
  cases v with
  |val _=>exact old rfl
  |sto _ _=>exact old rfl
  |new q=>
   have e:pends ((x0,.new q)::r)=finp r q::pends r:=rfl;rw [e];have h0:=h1 0 x0 q rfl;rw [Nat.add_zero]at h0;refine ⟨Lf k::Ls,by simp [g1],fun i p M hp hM=>?_,⟨fun M hM b hb=>?_,g3⟩,fun M hM=>?_,fun M hM=>?_⟩
   .cases i with
    |zero=>simp at hp hM;subst hp;subst hM;simpa using h0.1
    |succ i=>exact g2 i p M (by simpa using hp) (by simpa using hM)
   .obtain ⟨i,x,q',q1,q3⟩:=g4 M hM;rw [q3,show k+1+i=k+(i+1)by omega];exact h2 0 (i+1) x0 x q q' (by omega) rfl (by simpa using q1) b (by rw [Nat.add_zero];exact hb)
   .rcases List.mem_cons.1 hM with rfl|hM
    .exact ⟨0,x0,q,rfl,by rw [Nat.add_zero]⟩
    .obtain ⟨i,x,q',q1,q3⟩:=g4 M hM;exact ⟨i+1,x,q',by simpa using q1,by rw [q3];congr 1;omega⟩
   .rcases List.mem_cons.1 hM with rfl|hM
    .exact h0.2
    .exact g5 M hM
theorem same_adopt {s s':St}(p:Pend)(h:Same s s'):Same (s.adopt p) (s'.adopt p):=by
 obtain⟨d,k,sz,rows⟩:=p;cases s;cases s';obtain ⟨h1,h2,h3,h4,h5⟩:=h;dsimp only at h1 h2 h3 h4 h5;subst h2;subst h3;subst h4;subst h5;cases k<;>exact⟨fun t=>by simp only [St.adopt,eget];rw [h1 t],rfl,rfl,rfl,rfl⟩
theorem uV:∀(ps:List Pend) {s s':St},Same s s'->Same (s.adopts ps) (s'.adopts ps)
 | [],_,_,h=>h
 |p::ps,_,_,h=>uV ps (same_adopt p h)
def Ctx.dropr (C:Ctx)(u:Nat):Ctx:={ C with loc:=fun x=>if x=u then none else C.loc x,sub:=fun x=>if x=u then []else C.sub x }
theorem aR {C:Ctx}{u x:Nat}{M:Loc}(h:(C.dropr u).loc x=some M):x≠u/\C.loc x=some M:=by
 simp only [Ctx.dropr]at h;split at h
 .cases h
 .exact ⟨by assumption,h⟩
theorem fM {C:Ctx}{u x b:Nat}(h:b∈(C.dropr u).sub x):b∈C.sub x:=by
 simp only [Ctx.dropr]at h;split at h
 .cases h
 .exact h
theorem ae8 {C:Ctx}{w:World}(u:Nat):Ext C (C.dropr u) w w:=⟨Nat.le_refl _,fun x M _ h=>⟨M,(aR h).2,.inl rfl⟩,fun _ _ h=>h,fun _ _ _ _ h=>⟨h,rfl⟩⟩
theorem dropr_st {C:Ctx}{w:World}{h:List (Nat×HB)}(H:HSt C w h)(u:Nat):HSt (C.dropr u) w (hdel u h)/\Fr C (C.dropr u) w w:=by
 have E:=ae8 (C:=C) (w:=w) u;refine ⟨⟨fun x hx=>?_,fun x q hx=>?_,fun x M hM=>H.lt x M (aR hM).2,fun x x' M M' c g1 g2=>H.inj x x' M M' c (aR g1).2 (aR g2).2,fun x M c l g1=>H.own x M c l (aR g1).2,H.regs,H.lvs,H.rdis,H.zero,H.two,
  ⟨fun x q M hx hM=>?_,fun x hx=>?_,fun x=>?_,fun x b hb=>H.sub.lt x b (fM hb),fun x b x' M hb g1=>H.sub.root x b x' M (fM hb) (aR g1).2,fun x x' b hb hb'=>H.sub.dis x x' b (fM hb) (fM hb'),fun x b l hb=>H.sub.reg x b l (fM hb)⟩,H.tabE E H.zero.1⟩,
  ⟨Nat.le_refl _,fun _ _ _=>rfl,fun b hb=>?_,fun _ hb=>hb,fun _ hb=>.inl hb,rfl,rfl,fun x _ M h=>⟨M,(aR h).2,.inl rfl⟩⟩⟩
 .rw [O0]at hx;simp only [Ctx.dropr];split
  .rfl
  .rename_i hne;rw [if_neg hne]at hx;exact H.dom x hx
 .rw [O0]at hx;split at hx
  .cases hx
  .rename_i hne;obtain ⟨M,g1,g2,g3,g4⟩:=H.ent x q hx;exact ⟨M,by simp [Ctx.dropr,hne,g1],g2,g3,g4.mono E (fun _ _=>rfl)⟩
 .rw [O0]at hx;split at hx
  .cases hx
  .rename_i hne;simp only [Ctx.dropr];rw [if_neg hne];exact H.sub.dp x q M hx (aR hM).2
 .simp only [Ctx.dropr]at hx |-;split
  .rfl
  .rename_i e;rw [if_neg e]at hx;exact H.sub.s0 x hx
 .simp only [Ctx.dropr];split
  .exact .nil
  .exact H.sub.nd x
 .rcases hb with ⟨x,M,g1,g2⟩|hb|⟨x,hb⟩
  .exact .inl (.inl ⟨x,M,(aR g1).2,g2⟩)
  .exact .inl (.inr (.inl hb))
  .exact .inl (.inr (.inr ⟨x,fM hb⟩))
def St.give1:St->Nat->Nat->St
 |⟨env,heap,nx,n,lv⟩,u,d=>⟨(d,.junk)::env,hdel u heap,nx,n,lv⟩
def St.gives:St->List (Nat×Pend)->St
 |s,[]=>s
 |s,q::r=>(s.give1 q.1 q.2.d).gives r
structure Give1 (s:St) (u:Nat) (p:Pend):Prop where
 env:eget s.env p.d=.ptr u 1 0 0
 heap:hget s.heap u=some ⟨p.sz,p.rows⟩
 k:p.k=.ptr
 one:p.rows.length=1
 flat:flatR p.rows=true
 sz:Nat.beq p.sz 0=false
def GiveOK:St->List (Nat×Pend)->Prop
 |_,[]=>True
 |s,q::r=>Give1 s q.1 q.2/\GiveOK (s.give1 q.1 q.2.d) r
theorem give1_rep {C:Ctx}{w:World}{a:Act}{s:St}{u:Nat}{p:Pend}(hs:StRep C w a s)(g:Give1 s u p):
 ∃ L,StRep (C.dropr u) w a (s.give1 u p.d)/\Fr C (C.dropr u) w w/\PendOK (C.dropr u) w a p L/\∀ b,L.blk=some b->Own C b:=by
 obtain⟨g1,g2,g3,g4,g5,g6⟩:=g;have H:=hs.heap;obtain ⟨k1,k2⟩:=dropr_st H u;obtain ⟨L,e1,e2,e3,e4⟩:=H.ent u _ g2;have e2':L.sz=p.sz:=e2;have e3':L.n=p.rows.length:=e3;have hz:L.sz≠0:=by rw [e2'];intro e;rw [e]at g6;simp at g6
 have E:=ae8 (C:=C) (w:=w) u;have hv:=hs.env p.d;rw [g1]at hv;have e:s.give1 u p.d=⟨(p.d,.junk)::s.env,hdel u s.heap,s.nx,s.n,s.lv⟩:=by cases s;rfl
 have hkind:KindOK p.k L p.rows.length (a.tmps.getD p.d undef):=by
  rw [g3];generalize a.tmps.getD p.d undef=vv at hv;cases hv with
  |ptr hu hall=>
   obtain⟨_,h2⟩:=hall L e1;obtain ⟨b,b1,b2,b3⟩:=h2 (by omega);exact ⟨g4,b,b1,b2,by rw [b3];simp⟩
 refine⟨L,?_,k2,⟨⟨⟨e4.mono E (fun _ _=>rfl),?_⟩,e3',fun b hb=>⟨fun ho=>?_,fun l hl hr=>H.own u L b l e1 hb hl hr⟩⟩,e2',hkind⟩,fun b hb=>.inl ⟨u,L,e1,hb⟩⟩
 .rw [e];refine ⟨hs.defers,hs.size,hs.nx,fun i=>?_,k1,hs.lv⟩;simp only [eget];rw [Bool.cond_eq_ite];split
  .exact .junk _
  .exact (hs.env i).mono E
 .cases hbk:L.blk with
  |none=>exact deep_nil hbk
  |some b=>
   obtain⟨cs,el,fz,q1,q2,q3,q4,q5⟩:=fQ hbk hz e4;exact pS hbk hz ⟨cs,el,fz,q1,mY g5 (eT (dD q1 q5)) (by have:cs.toList.length=L.cap * L.sz:=q2;rw [this];exact Nat.mul_le_mul_right _ q3)⟩
 .rcases ho with ⟨x,M,h1,h2⟩|⟨l,_,h1,h2⟩|⟨x,h1⟩
  .obtain ⟨h3,h4⟩:=aR h1;exact h3 (H.inj x u M L b h4 e1 h2 hb)
  .exact H.own u L b l e1 hb h1 h2
  .exact H.sub.root x b u L (fM h1) e1 hb
theorem gives_rep {w:World}{a:Act}:∀(qs:List (Nat×Pend)) {C:Ctx} {s:St},StRep C w a s->GiveOK s qs->
 ∃(C':Ctx) (Ls:List Loc),StRep C' w a (s.gives qs)/\Ext C C' w w/\Fr C C' w w/\qs.length=Ls.length/\(∀ (i:Nat) q L,qs[i]? =some q->Ls[i]? =some L->PendOK C' w a q.2 L/\∀ b,L.blk=some b->Own C b)/\Apart Ls
 | [],C,s,hs,_=>⟨C,[],hs,Ext.refl _ _,Fr.refl _ _,rfl,fun i q L h=>by simp at h,trivial⟩
 |q::qs,C,s,hs,⟨g,gs⟩=>by
  obtain⟨L,h1,h2,h3,h4⟩:=give1_rep hs g;obtain ⟨C',Ls,k1,k2,k3,k4,k5,k6⟩:=gives_rep qs h1 gs;refine ⟨C',L::Ls,k1,(ae8 q.1).trans k2,h2.trans k3,by simp [k4],fun i q' L' hq hL=>?_,⟨fun M hM b hb hb'=>?_,k6⟩⟩
  .cases i with
   |zero=>
    simp at hq hL;subst hq;subst hL;obtain ⟨⟨p1,p2,p3⟩,p4,p5⟩:=h3;exact ⟨⟨Priv.mono ⟨h1.heap.zero.1,h1.heap.zero.2.1⟩ k2 k3 ⟨p1,p2,p3⟩,p4,p5⟩,h4⟩
   |succ i=>
    obtain⟨p1,p2⟩:=k5 i q' L' (by simpa using hq) (by simpa using hL);refine ⟨p1,fun b hb=>?_⟩;rcases p2 b hb with ⟨x,M,m1,m2⟩|ho|⟨x,m1⟩
    .exact .inl ⟨x,M,(aR m1).2,m2⟩
    .exact .inr (.inl ho)
    .exact .inr (.inr ⟨x,fM m1⟩)
  .obtain ⟨i,hi⟩:=List.getElem?_of_mem hM;have hlt:i<qs.length:=by
    rw [k4];rcases Nat.lt_or_ge i Ls.length with h|h
    .exact h
    .simp [List.getElem?_eq_none h]at hi
   obtain⟨_,p2⟩:=k5 i qs[i] M (List.getElem?_eq_getElem hlt) hi;exact (h3.1.2.2 b hb).1 (p2 b hb')
theorem gives_d:∀(qs:List (Nat×Pend)) {s:St} {i:Nat} {q:Nat×Pend},GiveOK s qs->qs[i]? =some q->∃ u,eget s.env q.2.d=.ptr u 1 0 0
 | [],_,i,_,_,h=>by simp at h
 |q0::qs,s,0,q,⟨g,_⟩,h=>by simp at h;subst h;exact⟨_,g.env⟩
 |q0::qs,s,i+1,q,⟨_,gs⟩,h=>by
  obtain⟨u,hu⟩:=gives_d qs gs (show qs[i]? =some q by simpa using h);have e:s.give1 q0.1 q0.2.d=⟨(q0.2.d,.junk)::s.env,hdel q0.1 s.heap,s.nx,s.n,s.lv⟩:=by cases s;rfl
  rw [e]at hu;simp only [eget,Bool.cond_eq_ite]at hu;split at hu
  .cases hu
  .exact ⟨u,hu⟩
theorem gives_dis:∀(qs:List (Nat×Pend)) {s:St} {i j:Nat} {p q:Nat×Pend},GiveOK s qs->qs[i]? =some p->qs[j]? =some q->p.2.d=q.2.d->i=j
 | [],_,i,_,_,_,_,h,_,_=>by simp at h
 |q0::qs,s,0,0,p,q,_,_,_,_=>rfl
 |q0::qs,s,0,j+1,p,q,⟨_,gs⟩,hp,hq,e=>by
  simp at hp;subst hp;obtain ⟨u,hu⟩:=gives_d qs gs (show qs[j]? =some q by simpa using hq);have e1:s.give1 q0.1 q0.2.d=⟨(q0.2.d,.junk)::s.env,hdel q0.1 s.heap,s.nx,s.n,s.lv⟩:=by cases s;rfl
  rw [e1]at hu;simp only [eget,Bool.cond_eq_ite]at hu;rw [if_pos (by simp [e])]at hu;cases hu
 |q0::qs,s,i+1,0,p,q,⟨_,gs⟩,hp,hq,e=>by
  simp at hq;subst hq;obtain ⟨u,hu⟩:=gives_d qs gs (show qs[i]? =some p by simpa using hp);have e1:s.give1 q0.1 q0.2.d=⟨(q0.2.d,.junk)::s.env,hdel q0.1 s.heap,s.nx,s.n,s.lv⟩:=by cases s;rfl
  rw [e1]at hu;simp only [eget,Bool.cond_eq_ite]at hu;rw [if_pos (by simp [e])]at hu;cases hu
 |q0::qs,s,i+1,j+1,p,q,⟨_,gs⟩,hp,hq,e=>by
  rw [gives_dis qs gs (show qs[i]? =some p by simpa using hp) (show qs[j]? =some q by simpa using hq) e]
def freeD (l:List Oper)(m:Nat)(qs:List (Nat×Pend)):Bool:=qs.all fun q=>(List.range m).all fun j=>match dstAt l j with |some t=>!Nat.beq t q.2.d|none=>true
theorem at_drawnI {id:Nat}{l:List Oper}{s:St}{K:Exit->St->Prop}(m:Nat)(qs:List (Nat×Pend))(hm:P.follows .mixedOrders=true)(hok:drawOk l m=true)(hq:GiveOK s qs)(hfd:freeD l m qs=true)
 (h:ADN P l (l.take m) (s.gives qs) (fun L s1=>okL (qs.map (·.2)) [] L=true/\∃ s2,Same (s1.adopts (foldP (qs.map (·.2)) L)) s2/\AOps P ⟨l⟩ (l.drop m) s2 (fun s'=>K .normal s'))):AT P (.region id ⟨l⟩ true) s K:=by
 intro C w a hs;obtain ⟨c1,c2,c3,c4,c5⟩:=chkAnd hok;obtain ⟨L,sf,⟨hL,s2,k1,k2⟩,g2,g3,g4,g5⟩:=adn_spec _ _ _ h;have hlen:(l.take m).length=m:=by simp;omega
 rw [hlen]at g2;have hw:Agree w { w with drawn:=w.drawn+1 }:=⟨Nat.le_refl _,fun _ _=>rfl,rfl,rfl⟩
 obtain⟨C1,Ls0,hs0,hE0,hF0,hl0,hp0,hap0⟩:=gives_rep qs (lQ hs hw:StRep C { w with drawn:=w.drawn+1 } a s) hq
 let ini:Nat->Option Pend:=fun i=>(qs[i-m]?).map (·.2)
 have hini:∀ i p,ini i=some p->∃ q,qs[i-m]? =some q/\q.2=p:=fun i p h=>by simpa [ini]using h
 let yl:Nat->Yld:=fun i=>(L.getD i (none,.val .junk)).2
 have hval:∀ i p,L[i]? =some p->yl i=p.2:=fun i p hp=>by simp [yl,List.getD,hp]
 have hdst:∀ j p,L[j]? =some p->j<m/\p.1=dstAt l j:=fun j p hp=>by
  have hj:j<m:=by
   rcases Nat.lt_or_ge j L.length with h|h
   .omega
   .simp [List.getElem?_eq_none h]at hp
  have hjl:j<l.length:=by omega
  obtain⟨p',_,q1,q2,_⟩:=g5 j l[j] (by rw [List.getElem?_take,if_pos hj];exact List.getElem?_eq_getElem hjl);rw [hp]at q1;simp only [Option.some.injEq]at q1;subst q1;exact ⟨hj,by rw [q2];simp [dstAt,List.getElem?_eq_getElem hjl]⟩
 have hLget:∀ j,j<m->∃ p,L[j]? =some p:=fun j hj=>⟨L[j]'(by omega),List.getElem?_eq_getElem (by omega)⟩
 have hvget:∀(j:Nat) p,L[j]? =some p->(vals L)[j]? =some (p.1,p.2.v):=fun j p hp=>by simp [vals,hp]
 have hvtake:∀ k:Nat,vals (L.take k)=(vals L).take k:=fun k=>by simp [vals,List.map_take]
 have reads:∀(E:Nat->V) (k t:Nat),k<=m->(∀ j,j<m->dstAt l j=some t->j<k->after E ((vals L).take k) t=(yl j).v)/\((∀ j,j<m->dstAt l j=some t->¬ j<k)->after E ((vals L).take k) t=E t):=fun E k t hk=>by
  refine⟨fun j hj hjt hjk=>?_,fun hnone=>?_⟩
  .obtain ⟨p,hp⟩:=hLget j hj;have h1:=(hdst j p hp).2;rw [hval j p hp];refine ac9 _ E t j (p.1,p.2.v) (by rw [List.getElem?_take,if_pos hjk];exact hvget j p hp) (by show p.1=some t;rw [h1];exact hjt) (fun j' q hne hq=>?_);rw [List.getElem?_take]at hq;split at hq
   .have hj':j'<m:=by
     rcases Nat.lt_or_ge j' (vals L).length with h|h
     .simp [vals]at h;omega
     .simp [List.getElem?_eq_none h]at hq
    obtain⟨p',hp'⟩:=hLget j' hj';rw [hvget j' p' hp']at hq;simp only [Option.some.injEq]at hq;subst hq;obtain ⟨h2,h3⟩:=hdst j' p' hp';exact fun e=>hne (aF c3 h2 hj (by rw [<- h3];exact e) hjt)
   .simp at hq
  .refine rR _ E t (fun p hp=>?_);obtain ⟨j,hj⟩:=List.getElem?_of_mem hp;rw [List.getElem?_take]at hj;split at hj
   .have hj':j<m:=by omega
    obtain⟨p',hp'⟩:=hLget j hj';rw [hvget j p' hp']at hj;simp only [Option.some.injEq]at hj;subst hj;obtain ⟨h2,h3⟩:=hdst j p' hp';exact fun e=>hnone j h2 (by rw [<- h3];exact e) (by assumption)
   .simp at hj
 let sm:Nat->Option (Nat×List V):=fun i=>if i<m then(match yl i with |.new p=>stoAt p.d (L.drop (i+1)) (i+1)|_=>none)else(match ini i with |some p=>stoAt p.d L 0|none=>none)
 have hpre:∀ k,okL (foldP (qs.map (·.2)) (L.take k)) (stF [] (L.take k)) (L.drop k)=true:=fun k=>wV (L.take k) (by rw [List.take_append_drop];exact hL);have hyL:∀(k:Nat) y,yl k=y->(∀ x,y≠ .val x)->∃ x,L[k]? =some (x,y):=fun k y h hn=>by
  cases hk:L[k]? with
  |none=>exact absurd (h.symm.trans (by simp [yl,List.getD,hk])) (hn .junk)
  |some q=>exact⟨q.1,by rw [<- h,hval k q hk]⟩
 refine wp_region_any hm ?_;have hsz:(⟨l⟩:Array Oper).size=m+(l.length-m):=by show l.length=_;omega
 rw [hsz];have hinv0:LInv l (Array.replicate (m+(l.length-m)) false):=⟨by simp;omega,fun i k hi _=>by rw [aN]at hi;cases hi⟩
 have hgt:∀ i,i<l.length->(Array.replicate (m+(l.length-m)) false).getD i true=false:=fun i hi=>by
  rw [nP (by simp;omega)];exact aN _ _
 have hL0:∀ i p,m<=i->ini i=some p->∃ M,Ls0[i-m]? =some M/\Ls0.getD (i-m) ⟨none,0,0,0⟩=M/\PendOK C1 { w with drawn:=w.drawn+1 } a p M/\∀ b,M.blk=some b->Own C b:=fun i p hi hp=>by
  obtain⟨q,h1,h2⟩:=hini i p hp;have hlt:i-m<Ls0.length:=by
   rw [<- hl0];rcases Nat.lt_or_ge (i-m) qs.length with h|h
   .exact h
   .simp [List.getElem?_eq_none h]at h1
  have h3:=List.getElem?_eq_getElem hlt;obtain ⟨h4,h5⟩:=hp0 _ q _ h1 h3;exact ⟨_,h3,by simp [List.getD,h3],by rw [<- h2];exact h4,h5⟩
 have hnl:∀ i,here m (Array.replicate (m+(l.length-m)) false) i=true->m<=i:=fun i h=>by
  rcases Nat.lt_or_ge i m with h1|h1
  .rw [yG h1,aN]at h;cases h
  .exact h1
 have hsm0:∀ i p,m<=i->ini i=some p->cur sm (Array.replicate (m+(l.length-m)) false) i p=p:=fun i p _ _=>by
  unfold cur;split
  .rw [aN];rfl
  .rfl
 refine ae5 (s0:=s.gives qs) (yl:=yl) (ini:=ini) (sm:=sm) (C0:=C) (w0:=w) hok ?_ ?_ ?_ ?_ ?_ ?_ m _ C1 _ a _ ?_ hs0 ((rS hw).trans hF0) ⟨fun i t _ _ hl=>?_,fun t _=>rfl,⟨rfl,rfl,rfl,rfl⟩⟩ ⟨fun i=>Ls0.getD (i-m) ⟨none,0,0,0⟩,(fun i p hp hl=>?_),(fun i j p q hij hp hq hl hl' b hb hb'=>?_)⟩ hinv0 (fun i _ hi=>hgt i hi)
 .intro i p hi hp j hj e;obtain ⟨q,h1,h2⟩:=hini i p hp;have:=List.all_eq_true.1 (List.all_eq_true.1 hfd q (List.mem_of_getElem? h1)) j (List.mem_range.2 hj);rw [e]at this;simp [h2]at this
 .intro i j p q hi hj hp hq' e;obtain ⟨q1,h1,h2⟩:=hini i p hp;obtain ⟨q2,h3,h4⟩:=hini j q hq';have:=gives_dis qs hq h1 h3 (by rw [h2,h4];exact e);omega
 .intro i o hi ho;obtain ⟨p,sj,q1,q2,q3,q4,q5,q6⟩:=g5 i o (by rw [List.getElem?_take,if_pos hi];exact ho);refine ⟨sj,by rw [hval i p q1];exact q3,q5,q6,fun t=>?_⟩;have:=reads (eget (s.gives qs).env) i t (by omega);rw [q4 t,hvtake];exact this
 .intro k t row hk hyk;obtain ⟨x,hx⟩:=hyL k _ hyk (fun _ e=>by cases e);have hkL:k<L.length:=by omega
  have h0:=hpre k;have hd:L.drop k=(x,.sto t row)::L.drop (k+1):=by
   rw [List.drop_eq_getElem_cons hkL];rw [List.getElem?_eq_getElem hkL]at hx;simp only [Option.some.injEq]at hx;rw [hx]
  rw [hd]at h0;simp only [okL,Bool.and_eq_true,Bool.not_eq_true',List.any_eq_false,List.any_eq_true]at h0;obtain ⟨⟨⟨p,p1,⟨p2,p3⟩,p4⟩,p5⟩,_⟩:=h0;rw [Nat.beq_eq]at p2 p4;have hsto:∀ d,d=t->∀ n,n<=k->stoAt d (L.drop n) n=some (k,row):=fun d hd n hn=>by
   rw [hd,stoAt_at (j:=k-n) (x:=x) (by rw [List.getElem?_drop,show n+(k-n)=k by omega];exact hx) (fun j hj y row' e=>by
    rw [List.getElem?_drop]at e;have hmem:=au4 (L.take k) (st:=[]) (t:=t) (.inr ⟨n+j,y,row',by rw [List.getElem?_take,if_pos (by omega)];exact e⟩);have:=p5 _ hmem;simp at this)]
   congr 2;omega
  rcases wQ _ p1 with ⟨q,q1,q2,q3,q4⟩|⟨i,d,q,q1,q2,q3,q4⟩
  .obtain ⟨q0,q5,q6⟩:=List.mem_map.1 q1;obtain ⟨n,hn⟩:=List.getElem?_of_mem q5;have hin:ini (m+n)=some q:=by simp [ini,hn,q6]
   refine⟨m+n,q,.inr ⟨by omega,hin⟩,by omega,?_,by omega,?_⟩
   .cases hk:q.k with
    |ptr=>rfl
    |hsl=>rw [q3]at hk;rw [hk]at p3;cases p3
    |mp=>rw [q3]at hk;rw [hk]at p3;cases p3
   .simp only [sm];rw [if_neg (by omega),hin];exact hsto q.d (by omega) 0 (by omega)
  .have hi:i<k:=by
    rcases Nat.lt_or_ge i (L.take k).length with h|h
    .simp at h;omega
    .simp [List.getElem?_eq_none h]at q1
   rw [List.getElem?_take,if_pos hi]at q1;have hyi:yl i=.new q:=hval i _ q1;refine ⟨i,q,.inl ⟨hi,hyi⟩,by omega,?_,by omega,?_⟩
   .cases hk:q.k with
    |ptr=>rfl
    |hsl=>rw [q3]at hk;rw [hk]at p3;cases p3
    |mp=>rw [q3]at hk;rw [hk]at p3;cases p3
   .simp only [sm];rw [if_pos (by omega),hyi];exact hsto q.d (by omega) (i+1) (by omega)
 .intro i k row hsm;simp only [sm]at hsm;split at hsm
  .rename_i him;split at hsm
   .rename_i p hp;obtain ⟨j,x,h1,h2⟩:=fC hsm;rw [List.getElem?_drop,<- h1]at h2;have hk:k<m:=by
     rcases Nat.lt_or_ge k L.length with h|h
     .omega
     .simp [List.getElem?_eq_none h]at h2
    exact⟨hk,p,.inl ⟨by omega,hp⟩,hval k _ h2⟩
   .cases hsm
  .rename_i him;split at hsm
   .rename_i p hp;obtain ⟨j,x,h1,h2⟩:=fC hsm;rw [show j=k by omega]at h2;have hk:k<m:=by
     rcases Nat.lt_or_ge k L.length with h|h
     .omega
     .simp [List.getElem?_eq_none h]at h2
    exact⟨hk,p,.inr ⟨by omega,hp⟩,hval k _ h2⟩
   .cases hsm
 .intro listed C' w' a' s' r1 r2 r3 rM r4 r5 r6;have hsame:Same s' sf:=by
   refine⟨fun t=>?_,r3.mt.heap.trans g4.heap.symm,r3.mt.nx.trans g4.nx.symm,r3.mt.n.trans g4.n.symm,r3.mt.lv.trans g4.lv.symm⟩;rw [g3 t];have hr:=reads (eget (s.gives qs).env) m t (Nat.le_refl _);rw [List.take_of_length_le (by simp [vals];omega)]at hr;by_cases hw2:∃ j,j<m/\dstAt l j=some t
   .obtain ⟨j,hj,hjt⟩:=hw2;rw [hr.1 j hj hjt hj,r3.on j t hj hjt (r5 j hj)]
   .have hnone:∀ j,j<m->dstAt l j=some t->False:=fun j h1 h2=>hw2 ⟨j,h1,h2⟩;rw [hr.2 (fun j h1 h2=>(hnone j h1 h2).elim),r3.off t (fun j h1 h2=>(hnone j h1 h2).elim)]
  obtain⟨Lf,m1,m2⟩:=rM;obtain ⟨Ls,p1,p2,p3,p4,p5⟩:=pend_list (Lf:=Lf) (C:=C') (w:=w') (a:=a') (B:=Bk C w) L 0 (fun i x q hp=>by
   rw [Nat.zero_add];have hi:=(hdst i _ hp).1;have hyi:yl i=.new q:=hval i _ hp;have:=m1 i q (by rw [tE hi,hyi];rfl) (by rw [yG hi];exact r5 i hi);have he:finp (L.drop (i+1)) q=cur sm listed i q:=by
    rw [vO _ (i+1) (hpre (i+1))];unfold cur;simp only [sm,if_pos hi,hyi];split
    .rename_i k row hk;obtain ⟨j,x',h1,h2⟩:=fC hk;rw [List.getElem?_drop,<- h1]at h2;rw [if_pos (r5 k (hdst k _ h2).1)]
    .rfl
   rw [he];exact this) (fun i j x y p q hij hp hq b=>by
   rw [Nat.zero_add,Nat.zero_add];have hi:=(hdst i _ hp).1;have hj:=(hdst j _ hq).1;exact m2 i j p q hij (by rw [tE hi,hval i _ hp];rfl) (by rw [tE hj,hval j _ hq];rfl) (by rw [yG hi];exact r5 i hi) (by rw [yG hj];exact r5 j hj) b)
  have hIn:∀(k:Nat) q,qs[k]? =some q->PendOK C' w' a' (finp L q.2) (Lf (m+k))/\∀ b,(Lf (m+k)).blk=some b->Bk C w b:=fun k q hk=>by
   have hin:ini (m+k)=some q.2:=by simp [ini,hk]
   have:=m1 (m+k) q.2 (by rw [pO (by omega)];exact hin) (af3 (by omega));have he:finp L q.2=cur sm listed (m+k) q.2:=by
    rw [vO _ 0 hL];unfold cur;simp only [sm,if_neg (show ¬ m+k<m by omega),hin];split
    .rename_i k' row hk';obtain ⟨j,x',h1,h2⟩:=fC hk';rw [show j=k' by omega]at h2;rw [if_pos (r5 k' (hdst k' _ h2).1)]
    .rfl
   rw [he];exact this
  have hApI:∀(i j:Nat) p q,i≠j->qs[i]? =some p->qs[j]? =some q->∀ b,(Lf (m+i)).blk=some b->(Lf (m+j)).blk≠some b:=fun i j p q hij hp hq'=>
   m2 (m+i) (m+j) p.2 q.2 (by omega) (by rw [pO (by omega)];simp [ini,hp]) (by rw [pO (by omega)];simp [ini,hq']) (af3 (by omega)) (af3 (by omega))
  have hmix:∀(k:Nat) q,qs[k]? =some q->∀ M∈Ls,∀ b,(Lf (m+k)).blk=some b->M.blk≠some b:=fun k q hk M hM=>by
   obtain⟨i,x,q',h1,h2⟩:=p4 M hM;rw [Nat.zero_add]at h2;have hi:=(hdst i _ h1).1;rw [h2];exact m2 (m+k) i q.2 q' (by omega) (by rw [pO (by omega)];simp [ini,hk]) (by rw [tE hi,hval i _ h1];rfl) (af3 (by omega)) (by rw [yG hi];exact r5 i hi)
  obtain⟨La,n1,n2,n3,n4⟩:∃ La:List Loc,(((qs.map (·.2)).map (finp L))++pends L).length=La.length/\(∀ (i:Nat) p M,(((qs.map (·.2)).map (finp L))++pends L)[i]? =some p->La[i]? =some M->PendOK C' w' a' p M)/\Apart La/\∀ M∈La,∀ b,M.blk=some b->Bk C w b:=by
   refine⟨(List.range qs.length).map (fun k=>Lf (m+k))++Ls,by simp [p1],fun i p M hp hM=>?_,?_,fun M hM=>?_⟩
   .by_cases hi:i<qs.length
    .rw [List.getElem?_append_left (by simpa using hi)]at hp;rw [List.getElem?_append_left (by simpa using hi)]at hM;have hq':=List.getElem?_eq_getElem hi;simp only [List.getElem?_map,hq',List.getElem?_range hi,Option.map_some,Option.some.injEq]at hp hM;rw [<- hp,<- hM];exact (hIn i _ hq').1
    .rw [List.getElem?_append_right (by simp;omega)]at hp;rw [List.getElem?_append_right (by simp;omega)]at hM;exact p2 (i-qs.length) p M (by simpa using hp) (by simpa using hM)
   .have key:∀ ks:List Nat,ks.Nodup->(∀ k∈ks,k<qs.length)->Apart (ks.map (fun k=>Lf (m+k))++Ls):=fun ks=>by
     induction ks with
     |nil=>exact fun _ _=>p3
     |cons k ks ih=>
      intro hnd hlt;obtain ⟨nd1,nd2⟩:=List.nodup_cons.1 hnd;refine ⟨fun M hM b hb=>?_,ih nd2 fun k hk=>hlt k (List.mem_cons_of_mem _ hk)⟩;have hk:=List.getElem?_eq_getElem (hlt k (List.mem_cons_self ..));rcases List.mem_append.1 hM with hM|hM
      .obtain ⟨k',hk',rfl⟩:=List.mem_map.1 hM;exact hApI k k' _ _ (fun e=>nd1 (by rw [e];exact hk')) hk (List.getElem?_eq_getElem (hlt k' (List.mem_cons_of_mem _ hk'))) b hb
      .exact hmix k _ hk M hM b hb
    exact key (List.range qs.length) List.nodup_range fun k hk=>List.mem_range.1 hk
   .rcases List.mem_append.1 hM with hM|hM
    .obtain ⟨k,hk,rfl⟩:=List.mem_map.1 hM;exact (hIn k _ (List.getElem?_eq_getElem (List.mem_range.1 hk))).2
    .exact p5 M hM
  obtain⟨C2,e1,e2,e3,e4,e5,e6⟩:=ao4 _ La r1 n1 n2 n3;have F2:=adopts_fr r2 e2 e3 e4 e5 n4 e6;refine ay0 hok (l.length-m) m listed a' w' (by omega) (Nat.le_refl _) r4 r5 r6 ?_;have hs2:Same (s'.adopts ((qs.map (·.2)).map (finp L)++pends L)) s2:=(uV _ hsame).trans (by rw [ac2]at k1;exact k1);exact k2 C2 w' a' _ (hs2.rep e1) (fun C3 w2 a2 s3 f1 f2 f3=>⟨C3,s3,f1,F2.trans f2,f3⟩)
 .have:((List.range m).filter fun i=>!(Array.replicate (m+(l.length-m)) false).getD i false)=List.range m:=List.filter_eq_self.2 fun i _=>by rw [aN];rfl
  rw [this];simp
 .rw [aN]at hl;cases hl
 .have him:=hnl i hl;rw [pO him]at hp;obtain ⟨M,h1,h2,h3,h4⟩:=hL0 i p him hp;rw [hsm0 i p him hp];show PendOK C1 _ a p (Ls0.getD (i-m) ⟨none,0,0,0⟩)/\∀ b,(Ls0.getD (i-m) ⟨none,0,0,0⟩).blk=some b->Bk C w b;rw [h2];exact ⟨h3,fun b hb=>.inr (h4 b hb)⟩
 .have him:=hnl i hl;have hjm:=hnl j hl';rw [pO him]at hp;rw [pO hjm]at hq;obtain ⟨M,h1,h2,h3,h4⟩:=hL0 i p him hp;obtain ⟨M',h1',h2',h3',h4'⟩:=hL0 j q hjm hq;replace hb:(Ls0.getD (i-m) ⟨none,0,0,0⟩).blk=some b:=hb;replace hb':(Ls0.getD (j-m) ⟨none,0,0,0⟩).blk=some b:=hb';rw [h2]at hb;rw [h2']at hb';have key:∀(Ls:List Loc) (i j:Nat) (M M':Loc),Apart Ls->i≠j->Ls[i]? =some M->Ls[j]? =some M'->∀ b,M.blk=some b->M'.blk≠some b:=fun Ls=>by
   induction Ls with
   |nil=>intro i j M M' _ _ h;simp at h
   |cons N Ls ih=>
    intro i j M M' ⟨a1,a2⟩ hne hM hM' b hb hb';cases i with
    |zero=>
     cases j with
     |zero=>exact hne rfl
     |succ j=>simp at hM;subst hM;exact a1 M' (List.mem_of_getElem? (show Ls[j]? =some M' by simpa using hM')) b hb hb'
    |succ i=>
     cases j with
     |zero=>simp at hM';subst hM';exact a1 M (List.mem_of_getElem? (show Ls[i]? =some M by simpa using hM)) b hb' hb
     |succ j=>exact ih i j M M' a2 (by omega) (by simpa using hM) (by simpa using hM') b hb hb'
  exact key Ls0 _ _ M M' hap0 (by omega) h1 h1' b hb hb'
end
end Go.Abs
namespace Go.Abs
section
variable {P:Program} {T:List TI} {ops:List Oper} {s s1:St} {d:Option Nat} {ty:Nat} {pos:String} {af:Array Edge} {gu:Option (Nat×Bool)} {r:List Oper} {N:St->Prop} {pd:List Pend} {st:List Nat}
def DN (P:Program)(ops l:List Oper)(s:St)(pd:List Pend)(st:List Nat)(N:St->Prop):Prop:=ADN P ops l s (fun L s1=>okL pd st L=true/\∃ s2,Same (s1.adopts (foldP pd L)) s2/\N s2)
theorem aq7 {ops:List Oper}:∀(l:List Oper) (s:St) {K K':List (Option Nat×Yld)->St->Prop},(∀ L t,K' L t->K L t)->ADN P ops l s K'->ADN P ops l s K
 | [],s,K,K',hk,g=>hk [] s g
 |o::r,s,K,K',hk,⟨x,s1,g1,g2,g3⟩=>⟨x,s1,g1,g2,aq7 r s1 (fun L t hK=>hk _ t hK) g3⟩
theorem adn_same {ops:List Oper}:∀(l:List Oper) (s s':St),Same s s'->∀ K K':List (Option Nat×Yld)->St->Prop,(∀ L t t',Same t t'->K' L t'->K L t)->ADN P ops l s' K'->ADN P ops l s K
 | [],s,s',h,K,K',hk,g=>hk [] s s' h g
 |o::r,s,s',h,K,K',hk,⟨x,s1,g1,g2,g3⟩=>by
  obtain⟨p1,p2,p3,p4,p5,p6⟩:=sK g2;obtain ⟨t1,ht1⟩:=put_of (s:=s) (d:=o.dst) (x:=x.v) (fun u hu=>by rw [h.n];exact p6 u hu);obtain ⟨q1,q2,q3,q4,q5,q6⟩:=sK ht1;refine ⟨x,t1,al6 (fun t _=>(h.env t).symm) h.heap.symm h.nx.symm h.n.symm h.lv.symm g1,ht1,adn_same r t1 s1 ⟨fun t=>by rw [q1 t,p1 t,h.env t],by rw [q2,p2,h.heap],by rw [q3,p3,h.nx],by rw [q4,p4,h.n],by rw [q5,p5,h.lv]⟩ _ _ (fun L t t' ht hK=>hk _ t t' ht hK) g3⟩
theorem dn_same {l:List Oper}{s s':St}(h:Same s s')(g:DN P ops l s' pd st N):DN P ops l s pd st N:=
 adn_same l s s' h _ _ (fun L t t' ht ⟨h0,s2,h1,h2⟩=>⟨h0,s2,(uV _ ht).trans h1,h2⟩) g
theorem C8 {id:Nat}{l:List Oper}{s:St}{K:Exit->St->Prop}(m:Nat)(hm:P.follows .mixedOrders=true)(hok:drawOk l m=true)
 (h:DN P l (l.take m) s [] [] (fun s2=>AOps P ⟨l⟩ (l.drop m) s2 (fun s'=>K .normal s'))):AT P (.region id ⟨l⟩ true) s K:=at_drawnI m [] hm hok trivial rfl h
theorem M7 {s2:St}(hs:s.adopts pd=s2)(h:N s2):DN P ops [] s pd st N:=by
 subst hs;exact ⟨rfl,s.adopts pd,Same.refl _,h⟩
theorem dn_val {o:Oper}{x:V}(hy:OYield P ops o s x)(hp:s.put o.dst x=some s1)(h:DN P ops r s1 pd st N):DN P ops (o::r) s pd st N:=
 ⟨.val x,s1,hy,hp,aq7 r s1 (fun L t hK=>hK) h⟩
theorem nv {op:Op}{x:V}(hg:gd ops (s.only (gSlots ops ⟨d,op,ty,pos,af,gu⟩)) gu=some true)
 (hx:OpVal P (s.only (opSlots ⟨d,op,ty,pos,af,gu⟩)) op x) (hp:s.put d x=some s1) (h:DN P ops r s1 pd st N):DN P ops (⟨d,op,ty,pos,af,gu⟩::r) s pd st N:=
 dn_val (.inl ⟨hg,orun_val hx⟩) hp h
theorem nx {o:Oper}{s':St}(hT:TabOK P T)(hx:dstep T ops s o=some s')(h:DN P ops r s' pd st N):DN P ops (o::r) s pd st N:=by
 unfold dstep at hx;split at hx
 .rename_i hg;split at hx
  .rename_i v hv;obtain ⟨d,op,ty,pos,af,gu⟩:=o;exact nv hg (uA hT hv) hx h
  .simp at hx
 .rename_i hg;exact dn_val (.inr ⟨hg,rfl⟩) hx h
 .simp at hx
theorem n_both {l:List Oper}{g:Nat}{b:Bool}(hv:eget s.env g=.bool b)(ht:b=true->DN P ops l (s.ovr g (.bool true)) pd st N)(hf:b=false->DN P ops l (s.ovr g (.bool false)) pd st N):DN P ops l s pd st N:=by
 have key:∀ c,b=c->Same s (s.ovr g (.bool c)):=fun c hc=>by
  subst hc;have:s.ovr g (.bool b)={ s with env:=(g,.bool b)::s.env }:=by cases s;rfl
  rw [this];refine ⟨fun t=>?_,rfl,rfl,rfl,rfl⟩;simp only [eget];rw [Bool.cond_eq_ite];by_cases h:t=g
  .subst h;rw [if_pos (by simp)];exact hv
  .rw [if_neg (by simp [h])]
 cases b
 .exact dn_same (key false rfl) (hf rfl)
 .exact dn_same (key true rfl) (ht rfl)
section
variable {l:List Oper} {g:Nat} {p:Prop} [Decidable p] {R:Type} {e1 e2:Option R} {q:R}
theorem dn_if (hF:(if p then e1 else e2)=some q)(hv:eget s.env g=.bool (decide p))(ht:p->e1=some q->DN P ops l (s.ovr g (.bool true)) pd st N)(hf:¬p->e2=some q->DN P ops l (s.ovr g (.bool false)) pd st N):DN P ops l s pd st N:=
 n_both hv (fun h=>by have h:p:=(by simpa using h);exact ht h (by rwa [if_pos h]at hF)) (fun h=>by have h:¬p:=(by simpa using h);exact hf h (by rwa [if_neg h]at hF))
theorem dn_ifnb {b:Bool}(hF:(if b=true then e1 else e2)=some q)(hv:eget s.env g=.bool (!b))(ht:b=false->e2=some q->DN P ops l (s.ovr g (.bool true)) pd st N)(hf:b=true->e1=some q->DN P ops l (s.ovr g (.bool false)) pd st N):DN P ops l s pd st N:=
 n_both hv (fun h=>by have h:b=false:=(by simpa using h);exact ht h (by rw [h]at hF;exact hF)) (fun h=>by have h:b=true:=(by simpa using h);exact hf h (by rwa [if_pos h]at hF))
end
theorem tC {f : FuncId} {args : List Operand} {args' : List V} {x : V} {tys : Array TypeId} 
 (hc:FC P f args' [] 12 (fun y _=>y=x)) (hg:gd ops (s.only (gSlots ops ⟨d,.call ⟨.value (.func f),⟨args⟩,tys⟩,ty,pos,af,gu⟩)) gu=some true)
 (hv:V.rlL (f0 s) (evL (s.only (opSlots ⟨d,.call ⟨.value (.func f),⟨args⟩,tys⟩,ty,pos,af,gu⟩)) args)=args') (hx:x.rl f01=x) (hp:s.put d x=some s1) (h:DN P ops r s1 pd st N):
 DN P ops (⟨d,.call ⟨.value (.func f),⟨args⟩,tys⟩,ty,pos,af,gu⟩::r) s pd st N:=by
 exact dn_val (zE hc hg hv hx) hp h
theorem onew_of {o:Oper}{p:Pend}{cap:Nat}(hfl:flatR p.rows=true)(hz:p.sz≠0)(hrun:∀ C w a,StRep C w a s->∃ v cs el,(execOp a.eval o).run P w=.ok (.value v) (w.alloc (.cells cs el))/\cs.size=cap * p.sz/\p.rows.length<=cap/\RowsIn C w cs p.sz p.rows/\KindOK p.k ⟨some w.heap.size,p.sz,p.rows.length,cap⟩ p.rows.length v):ONew P s o p:=by
 intro C w a hs K Q hK;obtain ⟨v,cs,el,h1,h2,h3,h4,h5⟩:=hrun C w a hs;have A:=nK w (.cells cs el);have E:=vC hs.heap A;unfold Oper.wp;rw [h1];have hb:(w.alloc (.cells cs el)).heap[w.heap.size]? =some (.cells cs el (0,0)):=by simp only [World.alloc,Array.getElem?_push_size]
 refine hK C (w.alloc (.cells cs el)) v ⟨some w.heap.size,p.sz,p.rows.length,cap⟩ ⟨?_,rfl,fun b hb=>?_⟩ rfl h5 (fun b hb=>by simp at hb;omega) E (rS A) ?_ rfl (fun _ h=>h)
 .exact ⟨ad4 rfl hz ⟨cs,el,(0,0),hb,h2,h3,fun o _=>by simp,mJ hb (h4.mono E)⟩,pS rfl hz ⟨cs,el,(0,0),hb,mY hfl (eT h4) (by have h6:cs.toList.length=cap * p.sz:=h2;rw [h6];exact Nat.mul_le_mul_right _ h3)⟩⟩
 .simp only [Option.some.injEq]at hb;subst hb;refine ⟨fun ho=>?_,fun l hl hr=>by have:=hs.heap.regs l _ hl hr;omega⟩;have:=hs.heap.ownlt ho;omega
 .exact (lQ hs A).heap
theorem dn_new {o:Oper}{p:Pend}(hg:gd ops (s.only (gSlots ops o)) o.guard=some true)(hd:o.dst=some p.d)(h0:ONew P (s.only (opSlots o)) o p)(hp:s.put o.dst .junk=some s1)(h:DN P ops r s1 (pd++[p]) st N):DN P ops (o::r) s pd st N:=
 ⟨.new p,s1,⟨hg,hd,h0⟩,hp,aq7 r s1 (fun L t hK=>hK) h⟩
end
end Go.Abs

namespace Go.Abs
def adoptL (C:Ctx):List (Loc×List Nat)->Ctx
 | []=>C
 |p::r=>adoptL ((C.set C.nx p.1 (C.nx+1)).under C.nx p.2) r
def heapL (nx:Nat):List HB->List (Nat×HB)->List (Nat×HB)
 | [],H=>H
 |hb::r,H=>heapL (nx+1) r ((nx,hb)::H)
def InP (p:Loc×List Nat)(b:Nat):Prop:=p.1.blk=some b\/b∈p.2
def Disj:List (Loc×List Nat)->Prop
 | []=>True
 |p::r=>(∀ q∈r,∀ b,InP p b->InP q b->False)/\Disj r
theorem PrivS.adopt {C:Ctx}{w:World}{h:List (Nat×HB)}(H:HSt C w h){L L':Loc}{S S':List Nat}{rows:List (List V)}(hp:PrivS C w L S rows)(hd:∀ b,InP (L',S') b->InP (L,S) b->False):PrivS ((C.set C.nx L' (C.nx+1)).under C.nx S') w L S rows:=by
 have E:Ext C ((C.set C.nx L' (C.nx+1)).under C.nx S') w w:=by
  have E0:=ac7 (w:=w) H L';exact ⟨E0.nx,E0.loc,E0.lv,E0.reg⟩
 have key:∀ b,InP (L,S) b->Untr C b->Untr ((C.set C.nx L' (C.nx+1)).under C.nx S') b:=fun b hb hu=>by
  refine⟨fun ho=>?_,hu.2⟩;rcases ho with ⟨u,M,h1,h2⟩|h|⟨u,h1⟩
  .simp only [Ctx.under,Ctx.set]at h1;split at h1
   .simp only [Option.some.injEq]at h1;subst h1;exact hd b (.inl h2) hb
   .exact hu.1 (.inl ⟨u,M,h1,h2⟩)
  .exact hu.1 (.inr (.inl h))
  .simp only [Ctx.under,Ctx.set]at h1;split at h1
   .exact hd b (.inr h1) hb
   .exact hu.1 (.inr (.inr ⟨u,h1⟩))
 exact⟨hp.blk.mono E (fun _ _=>rfl),hp.n,fun b hb=>key b (.inl hb) (hp.root b hb),hp.deep,hp.nd,fun b hb=>⟨key b (.inr hb) (hp.low b hb).1,(hp.low b hb).2⟩⟩
theorem sB {w:World}:∀(ps:List (Loc×List Nat)) (hbs:List HB) {C:Ctx} {h:List (Nat×HB)},HSt C w h->ps.length=hbs.length->(∀ (i:Nat) p hb,ps[i]? =some p->hbs[i]? =some hb->PrivS C w p.1 p.2 hb.rows/\p.1.sz=hb.sz)->Disj ps->
 HSt (adoptL C ps) w (heapL C.nx hbs h)/\Ext C (adoptL C ps) w w/\(adoptL C ps).nx=C.nx+ps.length/\(∀ (i:Nat) p,ps[i]? =some p->(adoptL C ps).loc (C.nx+i)=some p.1)/\(∀ x,x<C.nx->(adoptL C ps).loc x=C.loc x)/\(adoptL C ps).reg=C.reg/\(adoptL C ps).lv=C.lv/\(∀ b,Own (adoptL C ps) b->Own C b\/∃ p∈ps,InP p b)
 | [],[],C,h,H,_,_,_=>⟨H,Ext.refl _ _,rfl,fun i p h=>by simp at h,fun _ _=>rfl,rfl,rfl,fun b h=>.inl h⟩
 | [],_::_,C,h,H,hl,_,_=>by simp at hl
 |_::_,[],C,h,H,hl,_,_=>by simp at hl
 |p::ps,hb::hbs,C,h,H,hl,hp,hd=>by
  obtain⟨P0,e0⟩:=hp 0 p hb rfl rfl;obtain ⟨H1,E1⟩:=yI H P0;have hnx:((C.set C.nx p.1 (C.nx+1)).under C.nx p.2).nx=C.nx+1:=rfl;obtain ⟨a1,a2,a3,a4,a5,a6,a7,a8⟩:=sB ps hbs H1 (by simpa using hl) (fun i q hb' hq hhb=>by
   obtain⟨P1,e1⟩:=hp (i+1) q hb' (by simpa using hq) (by simpa using hhb);exact ⟨P1.adopt H fun b h1 h2=>hd.1 q (List.mem_of_getElem? hq) b h1 h2,e1⟩) hd.2
  rw [hnx]at a1 a3 a4 a5;refine ⟨?_,E1.trans a2,?_,fun i q hq=>?_,fun x hx=>?_,a6,a7,fun b ho=>?_⟩
  .show HSt _ w (heapL (C.nx+1) hbs ((C.nx,hb)::h));rw [e0]at a1;exact a1
  .show (adoptL ((C.set C.nx p.1 (C.nx+1)).under C.nx p.2) ps).nx=_;rw [a3,List.length_cons];omega
  .show (adoptL ((C.set C.nx p.1 (C.nx+1)).under C.nx p.2) ps).loc _=_;cases i with
   |zero=>
    simp at hq;subst hq;have:=a5 C.nx (Nat.lt_succ_self _);simp only [Nat.add_zero];rw [this];simp [Ctx.under,Ctx.set]
   |succ i=>
    have:=a4 i q (by simpa using hq);rw [show C.nx+(i+1)=C.nx+1+i by omega];exact this
  .show (adoptL ((C.set C.nx p.1 (C.nx+1)).under C.nx p.2) ps).loc _=_;rw [a5 x (by omega)];simp only [Ctx.under,Ctx.set];rw [if_neg (by omega)]
  .rcases a8 b ho with h1|⟨q,h1,h2⟩
   .rcases h1 with ⟨u,M,h1,h2⟩|h1|⟨u,h1⟩
    .simp only [Ctx.under,Ctx.set]at h1;split at h1
     .simp only [Option.some.injEq]at h1;subst h1;exact .inr ⟨p,by simp,.inl h2⟩
     .exact .inl (.inl ⟨u,M,h1,h2⟩)
    .exact .inl (.inr (.inl h1))
    .simp only [Ctx.under,Ctx.set]at h1;split at h1
     .exact .inr ⟨p,by simp,.inr h1⟩
     .exact .inl (.inr (.inr ⟨u,h1⟩))
   .exact .inr ⟨q,List.mem_cons_of_mem _ h1,h2⟩
section
variable {C C2:Ctx} {w w':World} {us:List Nat} {H h h2:List (Nat×HB)}
theorem home_priv (hs:HSt C w H)(hd:distinct us=true)(hL:Lent us H h)(F:Fr (C.lend us) C2 w w')(hst:HSt C2 w' h2){j sz:Nat}{L:Loc}{rows:List (List V)}(hj:us[j]? =none)(hLj:C2.loc j=some L)(hrows:hget h2 j=some ⟨sz,rows⟩):
 PrivS (C.home C2 us) w' L (C2.sub j) (rnR (us[·]?) rows):=by
 obtain⟨L',e1,e2,e3,e4⟩:=hst.ent j _ hrows;rw [hLj]at e1;simp only [Option.some.injEq]at e1;subst e1;have key:∀ b,Has C2 j b->Untr (C.home C2 us) b:=fun b hb=>by
  have hreg:∀ l,C.lv l->¬ C.reg l b:=fun l hlv hr=>by
   rcases F.own b hb.own with h|h
   .obtain ⟨k,u,_,g2⟩:=cL h;exact hs.has_reg g2 hlv hr
   .have:=hs.regs l b hlv hr;omega
  have hno:∀ x,Has C x b->dn us x=none->False:=fun x m1 hn=>by
   rcases F.own b hb.own with h|h
   .obtain ⟨k,u,g1,g2⟩:=cL h;have:=hs.has_inj m1 g2;subst this;rw [zG hd g1]at hn;cases hn
   .have:=hs.has_lt m1;omega
  have hno2:∀ k x,dn us x=some k->Has C2 k b->False:=fun k x hk m1=>by
   have:=hst.has_inj m1 hb;subst this;rw [cZ hk]at hj;cases hj
  refine⟨fun ho=>?_,fun l hlv hr=>?_⟩
  .rcases ho with ⟨x,M,m1,m2⟩|⟨l,hl,hlv,hr⟩|⟨x,m1⟩
   .simp only [Ctx.home]at m1;split at m1
    .rename_i k hk;exact hno2 k x hk (.inl ⟨M,m1,m2⟩)
    .rename_i hn;exact hno x (.inl ⟨M,m1,m2⟩) hn
   .rcases hr with hr|⟨e,_⟩
    .exact hreg l hlv hr
    .omega
   .simp only [Ctx.home]at m1;split at m1
    .rename_i k hk;exact hno2 k x hk (.inr m1)
    .rename_i hn;exact hno x (.inr m1) hn
  .rcases hr with hr|⟨rfl,hr⟩
   .exact hreg l hlv hr
   .exact hst.has_reg hb hst.zero.2.1 hr
 refine⟨av6 (af6 hs hd hL F hst) (fun _ _=>rfl) e4,by rw [e3];simp [rnR],fun b hb=>key b (.inl ⟨L,hLj,hb⟩),(hst.sub.dp j _ L hrows hLj).rn _,hst.sub.nd j,fun b hb=>⟨key b (.inr hb),fun e=>hst.sub.root j b j L hb hLj e,hst.sub.lt j b hb⟩⟩
def upN (us js:List Nat)(nx:Nat)(u:Nat):Option Nat:=match dn js u with |some i=>some (nx+i)|none=>us[u]?
def locs (C2:Ctx)(js:List Nat):List (Loc×List Nat):=js.map fun j=>((C2.loc j).getD ⟨none,0,0,0⟩,C2.sub j)
theorem ag9 (hst:HSt C2 w' h2){j b:Nat}{hb:HB}(hj:hget h2 j=some hb)(h:InP ((C2.loc j).getD ⟨none,0,0,0⟩,C2.sub j) b):Has C2 j b:=by
 obtain⟨L,e1,_⟩:=hst.ent j hb hj;rw [e1]at h;rcases h with h|h
 .exact .inl ⟨L,e1,h⟩
 .exact .inr h
theorem vJ (hst:HSt C2 w' h2):∀(js:List Nat),distinct js=true->(∀ j∈js,(hget h2 j).isSome=true)->Disj (locs C2 js)
 | [],_,_=>trivial
 |j::js,hd,hg=>by
  simp only [distinct,Bool.and_eq_true,Bool.not_eq_true']at hd;refine ⟨fun q hq b h1 h3=>?_,vJ hst js hd.2 fun k hk=>hg k (by simp [hk])⟩;obtain ⟨k,hk,rfl⟩:=List.mem_map.1 hq;obtain ⟨hb,e⟩:=Option.isSome_iff_exists.1 (hg j (by simp));obtain ⟨hb',e'⟩:=Option.isSome_iff_exists.1 (hg k (by simp [hk]));have:=hst.has_inj (ag9 hst e h1) (ag9 hst e' h3);subst this;obtain ⟨i,hi⟩:=List.getElem?_of_mem hk;exact gT hd.1 i hi
theorem owns_core (hs:HSt C w H)(hl:us.length<=12)(hd:distinct us=true)(hL:Lent us H h)(F:Fr (C.lend us) C2 w w')(hst:HSt C2 w' h2){H2:List (Nat×HB)}(hH2:HomeOK us H h2 H2){js:List Nat}{hbs:List HB}(hdj:distinct js=true)(hjs:∀ j∈js,us[j]? =none)(hrows:js.map (hget h2)=hbs.map some):
 HSt (adoptL (C.home C2 us) (locs C2 js)) w' (heapL C.nx (hbs.map fun hb=>⟨hb.sz,rnR (us[·]?) hb.rows⟩) H2)/\Ext C (adoptL (C.home C2 us) (locs C2 js)) w w'/\(adoptL (C.home C2 us) (locs C2 js)).nx=C.nx+js.length/\(adoptL (C.home C2 us) (locs C2 js)).lv=C.lv/\
  Fr C (adoptL (C.home C2 us) (locs C2 js)) w w'/\Rn (upN us js C.nx) C2 (adoptL (C.home C2 us) (locs C2 js)) w' w':=by
 have hlen:js.length=hbs.length:=by simpa using congrArg List.length hrows
 have hget':∀(i:Nat) j hb,js[i]? =some j->hbs[i]? =some hb->hget h2 j=some hb:=fun i j hb h1 h3=>by
  have:=congrArg (fun l=>l[i]?) hrows;simpa [h1,h3]using this
 have hsome:∀ j∈js,(hget h2 j).isSome=true:=fun j hj=>by
  obtain⟨i,hi⟩:=List.getElem?_of_mem hj;have hil:=(List.getElem?_eq_some_iff.1 hi).1;rw [hget' i j _ hi (List.getElem?_eq_getElem (by omega))];rfl
 have hH:=as6 hs hl hd hL F hst hH2;have E:=vT hs hl F;have G:=as5 (C:=C) hl F;have R:=af6 hs hd hL F hst;obtain ⟨a1,a2,a3,a4,a5,a6,a7,a8⟩:=sB (w:=w') (locs C2 js) (hbs.map fun hb=>⟨hb.sz,rnR (us[·]?) hb.rows⟩) hH (by simp [locs,hlen]) (fun i p hb hp hhb=>by
  simp only [locs,List.getElem?_map,Option.map_eq_some_iff]at hp hhb;obtain ⟨j,hj,rfl⟩:=hp;obtain ⟨hb',hhb',rfl⟩:=hhb;have hg:=hget' i j hb' hj hhb';obtain ⟨L,e1,e2,e3,e4⟩:=hst.ent j hb' hg;rw [e1];exact ⟨home_priv hs hd hL F hst (hjs j (List.mem_of_getElem? hj)) e1 hg,e2⟩) (vJ hst js hdj hsome)
 have hnx:(C.home C2 us).nx=C.nx:=rfl;rw [hnx]at a1 a3 a4 a5;have hlocs:(locs C2 js).length=js.length:=by simp [locs]
 rw [hlocs]at a3;refine ⟨a1,E.trans a2,a3,a7,⟨G.size,G.keep,fun b hb=>?_,fun b hb=>G.r0 b (by rw [<- a6];exact hb),fun b hb=>G.r1 b (by rw [<- a6];exact hb),G.os,G.out,fun u hu L' hL'=>?_⟩,?_⟩
 .rcases a8 b hb with h1|⟨p,h1,h3⟩
  .exact G.own b h1
  .obtain ⟨j,hj,rfl⟩:=List.mem_map.1 h1;obtain ⟨hb',e⟩:=Option.isSome_iff_exists.1 (hsome j hj);rcases F.own b (ag9 hst e h3).own with h|h
   .obtain ⟨k,u,_,g2⟩:=cL h;exact .inl g2.own
   .exact .inr h
 .have:=hs.two;rw [a5 u (by omega)]at hL';exact G.low u hu L' hL'
 .refine ⟨⟨fun l hl=>?_,fun l hl hlv=>R.rl.lv l hl (by rw [<- a7];exact hlv),fun l b hl hlv hb=>?_⟩,fun u k hk hu=>?_⟩
  .rw [a3];have:cut2 l<C.nx:=R.rl.lt l hl;omega
  .have:=R.rl.reg l b hl (by rw [<- a7];exact hlv) hb;rw [a6];exact this
  .unfold upN at hk;split at hk
   .rename_i i hi;simp only [Option.some.injEq]at hk;subst hk;have hj:=cZ hi;have hil:=(List.getElem?_eq_some_iff.1 hj).1;refine ⟨by rw [a3];omega,fun L' hL'=>?_⟩;have:=a4 i ((C2.loc u).getD ⟨none,0,0,0⟩,C2.sub u) (by simp only [locs,List.getElem?_map,hj,Option.map_some]);rw [this]at hL';simp only [Option.some.injEq]at hL';obtain ⟨hb',e⟩:=Option.isSome_iff_exists.1 (hsome u (List.mem_of_getElem? hj));obtain ⟨L,e1,_⟩:=hst.ent u hb' e;rw [e1]at hL';exact ⟨L,e1,.inl hL'.symm⟩
   .obtain ⟨h1,h3⟩:=R.loc u k hk hu;have h1':k<C.nx:=h1;refine ⟨by rw [a3];omega,fun L' hL'=>h3 L' ?_⟩;rw [a5 k h1']at hL';exact hL'
end
theorem rn_none_ok {s:St}:Lent [] s.heap []:=⟨fun j _=>by simp,fun j hb' hj=>by cases hj⟩
theorem home_none {H h2:List (Nat×HB)}:HomeOK [] H h2 H:=fun _=>⟨fun k hk=>(by cases hk),fun _=>rfl⟩
theorem Cd.flats {α:Type}(c:Cd α){l:Nat}(xs:List α)(h:Nat.ble l 1=true):flatR (xs.map (c.enc l))=true:=by
 unfold flatR;rw [List.all_eq_true];intro row hr;obtain ⟨x,_,rfl⟩:=List.mem_map.1 hr;rw [c.eq,List.all_eq_true];intro v hv;have:=List.all_eq_true.1 (c.one ⟨[],[],0,0,[]⟩ l x h) v hv;cases v<;>try rfl
 simp only [oneV]at this;show (!(!Nat.ble _ 1))=true;rw [this];rfl
theorem onew_call {P:Program}{s:St}{f:FuncId}{args:List Operand}{args':List V}{tys:Array TypeId}{x:Nat}{ty:Nat}{pos:String}{af:Array Edge}{gu:Option (Nat×Bool)}{sz n:Nat}{rows:List (List V)}(hn:rows.length=n)(hfl:flatR rows=true)
 (hc:FC P f args' [] 12 (fun y h2=>∃ j,y=.hsl j 0 n/\hget h2 j=some ⟨sz,rows⟩)) (hv:V.rnL (dn []) (evL s args)=args') (hr:rnR (fun i=>([]:List Nat)[i]?) rows=rows):
 ONew P s ⟨some x,.call ⟨.value (.func f),⟨args⟩,tys⟩,ty,pos,af,gu⟩ ⟨x,.hsl,sz,rows⟩:=by
 subst hn;intro C w a hs K Q hK;obtain ⟨⟨fn,h1,h2,h3⟩,hcall⟩:=hc;have e:(execOp a.eval ⟨some x,.call ⟨.value (.func f),⟨args⟩,tys⟩,ty,pos,af,gu⟩).run P w=.ok (.enter f ⟨args.map a.eval⟩) w:=by
  simp only [execOp,resolve,Act.eval,Deferred.ofValue,Sem.run_bind,Sem.run_pure,Result.andThen_ok,invoke,callFunc,run_program,h1,h2,h3];simp
 have hL:Lent [] s.heap []:=rn_none_ok;have hl:([]:List Nat).length<=12:=Nat.zero_le _;have hargs:RepL (C.lend []) w (args.map a.eval) args':=by
  rw [<- hv];exact RepL.rn (tZ hs.heap hl) (nM hs args)
 unfold Oper.wp;rw [e,Oper.upon_enter];refine (hcall (C.lend []) w ⟨args.map a.eval⟩ rfl (au2 hs.heap hl rfl hL) hargs).mono ?_;rintro e w' ⟨v,C2,y,hh,rfl,e2,e3,e4,j,rfl,hj⟩;obtain ⟨L,q1,q2,q3,q4⟩:=e2.ent j _ hj;have hP:=home_priv hs.heap rfl hL e4 e2 (us:=[]) rfl q1 hj;rw [hr]at hP;have hS:C2.sub j=[]:=by
  have hd:=e2.sub.dp j _ L hj q1;unfold Deep at hd;split at hd
  .exact hd
  .by_cases hz:L.sz=0
   .exact hd.1 hz
   .obtain ⟨cs,el,fz,_,h2⟩:=hd.2 hz;exact ak6 h2 hfl
 have hH:=as6 hs.heap hl rfl hL e4 e2 (H2:=s.heap) home_none;refine hK (C.home C2 []) w' v L ⟨⟨hP.blk,by have:=hP.deep;rw [hS]at this;exact this⟩,hP.n,hP.root⟩ q2 ?_ (fun b hb=>?_) (vT hs.heap hl e4) (as5 hl e4) hH rfl (fun _ h=>h)
 .cases e3 with
  |hsl hu h=>exact(h L q1).2 (by rw [q3];simp)
 .rcases e4.own b (.inl ⟨j,L,q1,hb⟩)with h|h
  .obtain ⟨k,u,g1,_⟩:=cL h;simp at g1
  .exact h
section
variable {P:Program} {T:List TI} {ops:List Oper} {s s1:St} {ty:Nat} {pos:String} {af:Array Edge} {gu:Option (Nat×Bool)} {r:List Oper} {N:St->Prop} {pd:List Pend} {st:List Nat}
theorem n_own {f:FuncId}{args:List Operand}{args':List V}{tys:Array TypeId}{x sz n:Nat}{rows:List (List V)}(hn:rows.length=n)(hfl:flatR rows=true)
 (hc:FC P f args' [] 12 (fun y h2=>∃ j,y=.hsl j 0 n/\hget h2 j=some ⟨sz,rows⟩)) (hg:gd ops (s.only (gSlots ops ⟨some x,.call ⟨.value (.func f),⟨args⟩,tys⟩,ty,pos,af,gu⟩)) gu=some true)
 (hv:V.rnL (dn []) (evL (s.only (opSlots ⟨some x,.call ⟨.value (.func f),⟨args⟩,tys⟩,ty,pos,af,gu⟩)) args)=args') (hr:rnR (fun i=>([]:List Nat)[i]?) rows=rows)
 (hp:s.put (some x) .junk=some s1) (h:DN P ops r s1 (pd++[⟨x,.hsl,sz,rows⟩]) st N):DN P ops (⟨some x,.call ⟨.value (.func f),⟨args⟩,tys⟩,ty,pos,af,gu⟩::r) s pd st N:=
 dn_new hg rfl (onew_call hn hfl hc hv hr) hp h
end
end Go.Abs

namespace Go.Abs
end Go.Abs

namespace Go.Abs
def mlook {α β:Type} [DecidableEq α]:List (α×β)->α->Option β
 | [],_=>none
 |p::r,k=>if k=p.1 then some p.2 else mlook r k
def mput {α β:Type} [DecidableEq α]:List (α×β)->α->β->List (α×β)
 | [],k,v=>[(k,v)]
 |p::r,k,v=>if k=p.1 then(k,v)::r else p::mput r k v
def mget {α:Type} [DecidableEq α] (m:List (α×Int))(k:α):Int:=(mlook m k).getD 0
def mhas {α β:Type} [DecidableEq α] (m:List (α×β))(k:α):Bool:=(mlook m k).isSome
structure Kc (α:Type) where
 enc:α->V
 rl:∀ f a,(enc a).rl f=enc a
structure Key {α:Type} [DecidableEq α] (k:Kc α) (d:TypeDesc):Prop where
 chk:∀(P:Program) (w:World) (t:Nat) (e:Bool) (a:α) (C:Ctx) (w0:World) (v:Value),P.underlying t=some d->Rep C w0 v (k.enc a)->(Instr.checkKey e 10000 t v).run P w=.ok () w
 same:∀(C:Ctx) (w:World) (v v':Value) (a b:α),Rep C w v (k.enc a)->Rep C w v' (k.enc b)->Instr.sameNow d v v'=some (decide (a=b))/\(a=b->v=v')/\Instr.sameBits 10000 v v=true
@[reducible] def dx : Kc Int := ⟨fun n => .int .i64 n, fun _ _ => rfl⟩
theorem Y7:Key dx (.int .i64) where
 chk P w t e a C w0 v hd h:=by
  cases h;exact MapKept.run_checkKey hd (by simp [MapKept.IsKey]) e _
 same C w v v' a b h h':=by
  cases h;cases h';refine ⟨?_,fun e=>by rw [e],?_⟩
  .simp only [Instr.sameNow,if_pos,Option.some.injEq];rw [Bool.eq_iff_iff];simp
  .simp [Instr.sameBits]
def ee {α β:Type}(K:Kc α)(E:Kc β)(m:List (α×β)):List V:=m.map fun p=>.tup [K.enc p.1,E.enc p.2]
theorem mrow_rl {α β:Type}(K:Kc α)(E:Kc β)(f:Nat->Nat):∀ m:List (α×β),V.rlL f (ee K E m)=ee K E m
 | []=>rfl
 |p::r=>by
  have:=mrow_rl K E f r;unfold ee at this |-;simp only [List.map_cons,V.rlL,V.rl,K.rl,E.rl,this]
theorem m9 {α β:Type}(K:Kc α)(E:Kc β)(n:Nat):∀ m:List (α×β),RowOk n (ee K E m)
 | []=>trivial
 |p::r=>⟨by show V.rl cut2 (.tup _)=_;simp only [V.rl,V.rlL,K.rl,E.rl],m9 K E n r⟩
theorem mrow_rn {α β:Type}(K:Kc α)(E:Kc β)(g:Nat->Option Nat):∀ m:List (α×β),V.rnL g (ee K E m)=ee K E m:=fun m=>dY g (mrow_rl K E cut2 m)
def tupE (e:MapEntry):Value:=.tuple ⟨[e.key,e.val]⟩
section
variable {C:Ctx} {w:World} {α β:Type} [DecidableEq α] {K:Kc α} {E:Kc β} {d:TypeDesc}
theorem entry_spec {v:Value}{x y:V}(e:MapEntry)(h:Rep C w (tupE e) (.tup [x,y])):Rep C w e.key x/\Rep C w e.val y:=by
 cases h with
 |tup h=>cases h with |cons h1 t=>cases t with |cons h2 t=>exact⟨h1,h2⟩
theorem af1 (hK:Key K d){v:Value}{k:α}(hv:Rep C w v (K.enc k)):∀{l:List MapEntry} {m:List (α×β)},RepL C w (l.map tupE) (ee K E m)->∀ i,
 (mlook m k=none/\Instr.findNow d v l i=some none/\∀ born nv b',Rep C w nv (E.enc b')->RepL C w ((l++[({ key:=v,val:=nv,born:=born }:MapEntry)]).map tupE) (ee K E (mput m k b')))\/
 (∃ b j e,mlook m k=some b/\l[j]? =some e/\Instr.findNow d v l i=some (some (i+j,e.val))/\Rep C w e.val (E.enc b)/\e.key=v/\∀ nv b',Rep C w nv (E.enc b')->RepL C w ((l.modify j fun e=>{ e with key:=v,val:=nv }).map tupE) (ee K E (mput m k b')))
 | [],[],h,i=>.inl ⟨rfl,rfl,fun born nv b' hn=>.cons (.tup (.cons hv (.cons hn .nil))) .nil⟩
 | [],p::m,h,i=>by simp [ee]at h;cases h
 |e::l,[],h,i=>by simp [ee]at h;cases h
 |e::l,p::m,h,i=>by
  simp only [ee,List.map_cons]at h;cases h with
  |cons h1 t=>
   obtain⟨g1,g2⟩:=entry_spec (v:=v) e h1;obtain ⟨s1,s2,_⟩:=hK.same C w v e.key k p.1 hv g1;by_cases hk:k=p.1
   .refine .inr ⟨p.2,0,e,by simp [mlook,hk],rfl,?_,g2,(s2 hk).symm,fun nv b' hn=>?_⟩
    .unfold Instr.findNow;rw [s1,decide_eq_true hk];rfl
    .have:mput (p::m) k b'=(k,b')::m:=by simp [mput,hk]
     rw [this];exact .cons (.tup (.cons hv (.cons hn .nil))) t
   .have hput:∀ b',mput (p::m) k b'=p::mput m k b':=fun b'=>by simp [mput,hk]
    have hlk:mlook (p::m) k=mlook m k:=by simp [mlook,hk]
    have hf:Instr.findNow d v (e::l) i=Instr.findNow d v l (i+1):=by
     show(match Instr.sameNow d v e.key with |some true=>_|some false=>_|none=>_)=_;rw [s1,decide_eq_false hk]
    rcases af1 hK hv (l:=l) (m:=m) t (i+1)with ⟨a1,a2,a3⟩|⟨b,j,e',a1,a2,a3,a4,a5,a6⟩
    .refine .inl ⟨by rw [hlk];exact a1,by rw [hf];exact a2,fun born nv b' hn=>?_⟩;rw [hput];exact .cons h1 (a3 born nv b' hn)
    .refine .inr ⟨b,j+1,e',by rw [hlk];exact a1,by simpa using a2,by rw [hf,a3,show i+1+j=i+(j+1)by omega],a4,a5,fun nv b' hn=>?_⟩;rw [hput,List.modify_succ_cons];exact .cons h1 (a6 nv b' hn)
theorem nN {P:Program}{kt:Nat}(hk:P.underlying kt=some d){v:Value}{l:List MapEntry}{r:Option (Nat×Value)}(h:Instr.findNow d v l 0=some r)(w:World):(Instr.findKey kt v l).run P w=.ok r w:=by
 simp [Instr.findKey,run_underlying hk,h]
end
def mapT (T:List TI)(t k e:Nat):Bool:=match T[t]? with
 |some ti=>(match ti.kind with
  |.map k' e'=>Nat.beq k k'&&Nat.beq e e'
  |_=>false)
 |none=>false
def keyT (T:List TI)(k:Nat)(d:TypeDesc):Prop:=∀{P:Program},TabOK P T->P.underlying k=some d
theorem Q2 {T:List TI}{k:Nat}(h:convK T k=some .i64):keyT T k (.int .i64):=fun hT=>by
 obtain⟨ti,h1,h2⟩:=yA h;exact hT.int h1 h2
section
variable {P:Program} {T:List TI} {s:St} {ops:Array Oper} {d:Option Nat} {ty:Nat} {pos:String} {af:Array Edge} {gu:Option (Nat×Bool)} {r:List Oper} {K:St->Prop} {s1:St}
variable {α β:Type} [DecidableEq α]
theorem wP {t k e:Nat}(hT:TabOK P T)(h:mapT T t k e=true):P.underlying t=some (.map k e):=by
 unfold mapT at h;split at h
 .rename_i ti ht;split at h
  .rename_i k' e' hk;simp only [Bool.and_eq_true,Nat.beq_eq]at h;obtain ⟨rfl,rfl⟩:=h;exact hT.map ht hk
  .cases h
 .cases h
theorem look_core {kc:Kc α}{E:Kc β}{D:TypeDesc}(hK:Key kc D){t k e u:Nat}{x y:Operand}{m:List (α×β)}{a0:α}{z:Value}{zb:β}(hz:∀ w,(zeroValue e).run P w=.ok z w)(hzr:∀ C w,Rep C w z (E.enc zb))(hT:TabOK P T)(ht:mapT T t k e=true)(hkt:keyT T k D)
 (hx:ev s x=.mp u 1) (hu:hget s.heap u=some ⟨0,[ee kc E m]⟩) (hy:ev s y=kc.enc a0) (ok:Bool) (res:V)
 (hres:res=(if ok then .tup [E.enc ((mlook m a0).getD zb),.bool (mhas m a0)]else E.enc ((mlook m a0).getD zb))):OpVal P s (.lookup t x y ok) res:=fun C w a hs d ty pos af gu=>by
 have hv:=hs.ev x;rw [hx]at hv;have hv2:=hs.ev y;rw [hy]at hv2;obtain ⟨L,b,h1,h2,h3,h4,⟨es,clock,ents,h5,h6,h7⟩,h8⟩:=mp_spec hs.heap hv hu rfl;have hr:ee kc E m=ents:=by simpa using h5
 subst hr;have hb:=h6;have key:∃ rr v,(∀ w',(Instr.findKey k (a.eval y) es.toList).run P w'=.ok rr w')/\((rr=none/\v=z/\mhas m a0=false)\/∃ j,rr=some (j,v)/\mhas m a0=true)/\Rep C w v (E.enc ((mlook m a0).getD zb)):=by
  rcases af1 (l:=es.toList) hK hv2 h7 0 with ⟨a1,a2,_⟩|⟨b',j,e',a1,a2,a3,a4,a5,_⟩
  .exact ⟨none,z,fun w'=>nN (hkt hT) a2 w',.inl ⟨rfl,rfl,by simp [mhas,a1]⟩,by rw [a1];exact hzr C w⟩
  .exact ⟨some (0+j,e'.val),e'.val,fun w'=>nN (hkt hT) a3 w',.inr ⟨_,rfl,by simp [mhas,a1]⟩,by rw [a1];exact a4⟩
 obtain⟨rr,v,k1,k2,k3⟩:=key;have hlt:b<w.heap.size:=by
  rcases Nat.lt_or_ge b w.heap.size with h|h
  .exact h
  .simp [Array.getElem?_eq_none h]at hb
 refine⟨if ok then .tuple #[v,.bool (mhas m a0)]else v,fun w' hw=>?_,?_⟩
 .have hbw:w'.heap[b]? =some (.map es clock):=by rw [hw.2 b hlt];exact hb
  have hck:=fun e=>hK.chk P w' k e a0 C w (a.eval y) (hkt hT) hv2;rcases k2 with ⟨rfl,rfl,q⟩|⟨j,rfl,q⟩
  .simp [execOp,h8,Instr.lookup,run_underlying (wP hT ht),MapKept.run_getObj_map hbw,hck,k1,hz,q]
  .simp [execOp,h8,Instr.lookup,run_underlying (wP hT ht),MapKept.run_getObj_map hbw,hck,k1,q]
 .rw [hres];cases ok
  .exact k3
  .exact .tup (.cons k3 (.cons (.bool _) .nil))
theorem tD {kc:Kc α}{D:TypeDesc}(hK:Key kc D){t k e u:Nat}{x y:Operand}{m:List (α×Int)}{a0:α}(hz:∀ w,(zeroValue e).run P w=.ok (.int .i64 0) w)(hT:TabOK P T)(ht:mapT T t k e=true)(hkt:keyT T k D)
 (hx:ev s x=.mp u 1) (hu:hget s.heap u=some ⟨0,[ee kc dx m]⟩) (hy:ev s y=kc.enc a0):OpVal P s (.lookup t x y false) (.int .i64 (mget m a0)):=
 look_core hK (zb:=(0:Int)) hz (fun C w=>.int _ _) hT ht hkt hx hu hy false _ rfl
theorem om_getok {kc:Kc α}{D:TypeDesc}(hK:Key kc D){t k e u:Nat}{x y:Operand}{m:List (α×Int)}{a0:α}(hz:∀ w,(zeroValue e).run P w=.ok (.int .i64 0) w)(hT:TabOK P T)(ht:mapT T t k e=true)(hkt:keyT T k D)
 (hx:ev s x=.mp u 1) (hu:hget s.heap u=some ⟨0,[ee kc dx m]⟩) (hy:ev s y=kc.enc a0):OpVal P s (.lookup t x y true) (.tup [.int .i64 (mget m a0),.bool (mhas m a0)]):=
 look_core hK (zb:=(0:Int)) hz (fun C w=>.int _ _) hT ht hkt hx hu hy true _ rfl
theorem aa1 {kc:Kc α}{E:Kc β}{D:TypeDesc}(hK:Key kc D){t k e u:Nat}{x y z:Operand}{m:List (α×β)}{a0:α}{b0:β}(hT:TabOK P T)(hg:gd ops.toList s gu=some true)(ht:mapT T t k e=true)(hkt:keyT T k D)
 (hx:ev s x=.mp u 1) (hu:hget s.heap u=some ⟨0,[ee kc E m]⟩) (hy:ev s y=kc.enc a0) (hv:ev s z=E.enc b0)
 (hs1:(s.wr u ⟨0,[ee kc E (mput m a0 b0)]⟩).norm=some s1) (h:AOps P ops r s1 K):AOps P ops (⟨none,.mapUpdate t x y z,ty,pos,af,gu⟩::r) s K:=
 rT hg fun C w a hs=>by
  rw [ah5]at hs1;simp only [Option.some.injEq]at hs1;subst hs1;have hvx:=hs.ev x;rw [hx]at hvx;have hvy:=hs.ev y;rw [hy]at hvy;have hvz:=hs.ev z;rw [hv]at hvz;obtain ⟨L,b,h1,h2,h3,h4,⟨es,clock,ents,h5,h6,h7⟩,h8⟩:=mp_spec hs.heap hvx hu rfl;have hr:ee kc E m=ents:=by simpa using h5
  subst hr;have hlt:b<w.heap.size:=by
   rcases Nat.lt_or_ge b w.heap.size with h|h
   .exact h
   .simp [Array.getElem?_eq_none h]at h6
  have hck:=fun e=>hK.chk P w k e a0 C w (a.eval y) (hkt hT) hvy;have key:∃ es' clock',(execOp a.eval ⟨none,.mapUpdate t x y z,ty,pos,af,gu⟩).run P w=.ok .skip { w with heap:=w.heap.setIfInBounds b (.map es' clock') }/\RepL C w (es'.toList.map tupE) (ee kc E (mput m a0 b0)):=by
   rcases af1 (l:=es.toList) hK hvy h7 0 with ⟨a1,a2,a3⟩|⟨b',j,e',a1,a2,a3,a4,a5,a6⟩
   .refine ⟨es.push { key:=a.eval y,val:=a.eval z,born:=clock },clock+1,?_,by simpa using a3 clock (a.eval z) b0 hvz⟩;simp [execOp,h8,Instr.mapUpdate,run_underlying (wP hT ht),MapKept.run_getObj_map h6,hck,nN (hkt hT) a2,MapKept.run_setObj_map _ h6]
   .refine ⟨es.modify (0+j) fun e=>{ e with key:=a.eval y,val:=a.eval z },clock,?_,by simpa [Array.toList_modify]using a6 (a.eval z) b0 hvz⟩;have hj:es[0+j]? =some e':=by simpa using a2
    have hkeep:(Instr.keyThatStays (a.eval y) (a.eval y)).run P w=.ok (a.eval y) w:=by
     simp [Instr.keyThatStays,(hK.same C w _ _ a0 a0 hvy hvy).2.2]
    simp [execOp,h8,Instr.mapUpdate,run_underlying (wP hT ht),MapKept.run_getObj_map h6,hck,nN (hkt hT) a3,MapKept.run_setObj_map _ h6];have hj':es[j]? =some e':=by simpa using hj
    simp [hj',a5,hkeep,MapKept.run_setObj_map _ h6]
  obtain⟨es',clock',k1,k2⟩:=key;have hh:({ w with heap:=w.heap.setIfInBounds b (.map es' clock') }:World).heap[b]? =some (.map es' clock'):=by simp [hlt]
  have hw:=HSt.writeG hs.heap (w':={ w with heap:=w.heap.setIfInBounds b (.map es' clock') }) (rows:=[ee kc E (mput m a0 b0)]) h1 h4 rfl rfl (by simp) (fun c hc=>by simp [Array.getElem?_setIfInBounds,Ne.symm hc]) (.inl (by simp [h3]))
   (fun C' E'=>mblk_of h4 (by rw [h2]) ⟨es',clock',_,rfl,hh,RepL.mono E' k2⟩) [] (List.nil_sublist _) (fun _=>deep_map h4 h2)
  have hset:=set_same C (n:=([ee kc E (mput m a0 b0)]).length) h1 (by simp [h3]);rw [hset,h2]at hw;obtain ⟨w1,w2,w3⟩:=hw;exact ⟨_,C.under u [],s.wr u ⟨0,[ee kc E (mput m a0 b0)]⟩,k1,wr_rep (C:=C.under u []) ⟨hs.defers,hs.size,hs.nx,fun i=>(hs.env i).mono w2,w1,hs.lv⟩,w3,h⟩
def St.newM:St->List V->Option Nat->Option St
 |⟨env,heap,nx,n,lv⟩,row,some d=>bif Nat.blt d n then some ⟨(d,.mp nx 1)::env,(nx,⟨0,[row]⟩)::heap,nx+1,n,lv⟩else none
 |⟨env,heap,nx,n,lv⟩,row,none=>some ⟨env,(nx,⟨0,[row]⟩)::heap,nx+1,n,lv⟩
theorem newM_eq (s:St)(row:List V)(d:Option Nat):s.newM row d=(s.new ⟨0,[row]⟩).put d (.mp s.nx 1):=by cases s;cases d<;>rfl
omit [DecidableEq α] in
theorem rD (kc:Kc α)(E:Kc β){t:Nat}(hg:gd ops.toList s gu=some true)(hp:s.newM (ee kc E []) d=some s1)(h:AOps P ops r s1 K):AOps P ops (⟨d,.makeMap t none,ty,pos,af,gu⟩::r) s K:=
 gQ hg fun C w a hs=>by
  rw [newM_eq]at hp;have hm:(Instr.makeMap t none).run P w=.ok (.map (some w.heap.size)) (w.alloc (.map #[] 0)):=rfl;have hh:=hs.heap.allocG (o:=.map #[] 0) (sz:=0) (cap:=0) (rows:=[ee kc E []]) (fun C' E'=>mblk_of rfl rfl ⟨#[],0,_,rfl,by simp only [World.alloc,Array.getElem?_push_size],.nil⟩) (deep_map rfl rfl);have E1:=ext_add hs.heap (.map #[] 0) ⟨some w.heap.size,0,1,0⟩;have F:=fr_add (C:=C) (w:=w) (.map #[] 0) (L:=⟨some w.heap.size,0,1,0⟩) rfl hs.heap.two;refine ⟨.map (some w.heap.size),_,_,s1,by simp only [execOp,Option.map_none,hm,Sem.run_bind,Result.andThen_ok,Sem.run_pure],W2 (s:=s.new ⟨0,[ee kc E []]⟩) (new_rep ⟨hs.defers,hs.size,by simp [Ctx.set,hs.nx],fun i=>(hs.env i).mono E1,by rw [<- hs.nx];exact hh,hs.lv⟩) (.mp ?_ fun L hL=>?_) hp,F,h⟩
  .simp [Ctx.set,hs.nx]
  .simp [Ctx.set,hs.nx]at hL;subst hL;exact ⟨Nat.le_refl _,fun _=>.inr ⟨rfl,_,rfl,rfl,rfl⟩⟩
end
end Go.Abs
