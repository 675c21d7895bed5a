
import Derived.Test.YtllbdfllngpkaaaGreatLibG
import Derived.Test.YtllbdfllngpkaaaGreatLibE
set_option linter.all false
namespace Go.Abs
def Ctx.fz (C:Ctx)(u:Nat)(L:Loc):Ctx:=
 {reg:=fun l b=>C.reg l b\/(l=1/\(L.blk=some b\/b∈C.sub u)),lv:=C.lv,loc:=fun x=>if x=u then none else C.loc x,nx:=C.nx,sub:=fun x=>if x=u then []else C.sub x }
section
variable {C:Ctx} {w:World} {h:List (Nat×HB)}
theorem vQ {u:Nat}{L:Loc}{x:Nat}{M:Loc}(hx:(C.fz u L).loc x=some M):x≠u/\C.loc x=some M:=by
 simp only [Ctx.fz]at hx;split at hx
 .cases hx
 .exact ⟨by assumption,hx⟩
theorem ap3 {u:Nat}{L:Loc}{x b:Nat}(hx:b∈(C.fz u L).sub x):x≠u/\b∈C.sub x:=by
 simp only [Ctx.fz]at hx;split at hx
 .cases hx
 .exact ⟨by assumption,hx⟩
theorem fz_ext (u:Nat)(L:Loc):Ext C (C.fz u L) w w:=
 ⟨Nat.le_refl _,fun x M _ h=>⟨M,(vQ h).2,.inl rfl⟩,fun _ _ h=>h,fun _ _ _ _ hb=>⟨.inl hb,rfl⟩⟩
theorem fz_core (H:HSt C w h){u:Nat}{L:Loc}(hL:C.loc u=some L):HSt (C.fz u L) w (hdel u h)/\Fr C (C.fz u L) w w:=by
 have E:=fz_ext (C:=C) (w:=w) u L;refine ⟨⟨fun x hx=>?_,fun x hbk hx=>?_,fun x M hM=>H.lt x M (vQ hM).2,fun x x' M M' c g1 g2=>H.inj x x' M M' c (vQ g1).2 (vQ g2).2,fun x M c l g1 g2 g3 g4=>?_,fun l c g1 g2=>?_,H.lvs,fun l l' c g1 g2 g3 g4=>?_,H.zero,H.two,
  ⟨fun x hb M hx hM=>?_,fun x hx=>?_,fun x=>?_,fun x b hb=>H.sub.lt x b (ap3 hb).2,fun x b x' M hb g1 g2=>H.sub.root x b x' M (ap3 hb).2 (vQ g1).2 g2,fun x x' b hb hb'=>H.sub.dis x x' b (ap3 hb).2 (ap3 hb').2,fun x b l hb g1 g2=>?_⟩,H.tabE E H.zero.1⟩,?_⟩
 .rw [O0]at hx;simp only [Ctx.fz];split
  .rfl
  .rename_i hne;rw [if_neg hne]at hx;exact H.dom x hx
 .rw [O0]at hx;split at hx
  .cases hx
  .rename_i hne;obtain ⟨M,g1,g2,g3,g4⟩:=H.ent x hbk hx;exact ⟨M,by simp [Ctx.fz,hne,g1],g2,g3,g4.mono E (fun _ _=>rfl)⟩
 .obtain ⟨g5,g6⟩:=vQ g1;rcases g4 with g4|⟨_,g4|g4⟩
  .exact H.own x M c l g6 g2 g3 g4
  .exact g5 (H.inj x u M L c g6 hL g2 g4)
  .exact H.sub.root u c x M g4 g6 g2
 .rcases g2 with g2|⟨_,g2|g2⟩
  .exact H.regs l c g1 g2
  .exact H.rootlt hL g2
  .exact H.sub.lt u c g2
 .have k1:∀ l,C.lv l->C.reg l c->(L.blk=some c\/c∈C.sub u)->False:=fun l a1 a2 a3=>by
   rcases a3 with a3|a3
   .exact H.own u L c l hL a3 a1 a2
   .exact H.sub.reg u c l a3 a1 a2
  rcases g3 with g3|⟨e3,g3⟩<;>rcases g4 with g4|⟨e4,g4⟩
  .exact H.rdis l l' c g1 g2 g3 g4
  .exact (k1 l g1 g3 g4).elim
  .exact (k1 l' g2 g4 g3).elim
  .rw [e3,e4]
 .rw [O0]at hx;split at hx
  .cases hx
  .rename_i hne;simp only [Ctx.fz];rw [if_neg hne];exact H.sub.dp x hb M hx (vQ hM).2
 .simp only [Ctx.fz]at hx |-;split at hx
  .rename_i e;rw [if_pos e]
  .rename_i e;rw [if_neg e];exact H.sub.s0 x hx
 .simp only [Ctx.fz];split
  .exact .nil
  .exact H.sub.nd x
 .obtain ⟨g3,g4⟩:=ap3 hb;rcases g2 with g2|⟨_,g2|g2⟩
  .exact H.sub.reg x b l g4 g1 g2
  .exact H.sub.root x b u L g4 hL g2
  .exact g3 (H.sub.dis x u b g4 g2)
 .refine ⟨Nat.le_refl _,fun _ _ _=>rfl,fun b hb=>?_,fun b hb=>?_,fun b hb=>?_,rfl,rfl,fun x _ M h=>⟨M,(vQ h).2,.inl rfl⟩⟩
  .rcases hb with ⟨x,M,g1,g2⟩|⟨l,g1,g2,g3⟩|⟨x,g1⟩
   .exact .inl (.inl ⟨x,M,(vQ g1).2,g2⟩)
   .rcases g3 with g3|⟨e,_⟩
    .exact .inl (.inr (.inl ⟨l,g1,g2,g3⟩))
    .omega
   .exact .inl (.inr (.inr ⟨x,(ap3 g1).2⟩))
  .rcases hb with hb|⟨e,_⟩
   .exact hb
   .omega
  .rcases hb with hb|⟨_,hb|hb⟩
   .exact .inl hb
   .exact .inr (.inl (.inl ⟨u,L,hL,hb⟩))
   .exact .inr (.inl (.inr (.inr ⟨u,hb⟩)))
def f1k:Nat->Nat:=fun _=>1
theorem fz_rep (H:HSt C w h){u n sz:Nat}{rows rows':List (List V)}(hu:hget h u=some ⟨sz,rows⟩)(hn:n=rows.length)(hz:sz≠0)(hdp:∀ row∈rows,row.all dpV=true)(hr:V.rlR f1k rows=rows'){v:Value}{L:Loc}(hL:C.loc u=some L)(hv:Rep C w v (.hsl u 0 n)):
 Rep (C.fz u L) w v (.psl 1 sz rows'):=by
 subst hr;subst hn;obtain ⟨L',h1,h2,h3,h4,h5⟩:=aO H hv hu (by show 0+rows.length=rows.length;omega);rw [hL]at h1;simp only [Option.some.injEq]at h1;subst h1;have h2':L.sz=sz:=h2;have hd:=ac0 (by rw [h2'];exact hz) h5 h4 (H.sub.dp u _ L hu hL) hdp;rw [h2']at hd;have h1lt:1<C.nx:=by have:=H.two;omega
 refine DeepV.rep (C:=C.fz u L) (k:=1) H.zero.2.1 h1lt (fun b hb=>.inr ⟨rfl,?_⟩) hd;rcases List.mem_append.1 hb with hb|hb
 .exact .inl (by simpa using hb)
 .exact .inr hb
mutual
inductive FzD (D:V->V->Prop):V->V->Prop
 |hit {x z:V} (h:D x z):FzD D x z
 |refl (x:V):FzD D x x
 |agg {xs zs:List V} (h:FzL D xs zs):FzD D (.agg xs) (.agg zs)
 |tup {xs zs:List V} (h:FzL D xs zs):FzD D (.tup xs) (.tup zs)
inductive FzL (D:V->V->Prop):List V->List V->Prop
 |nil:FzL D [] []
 |cons {x z:V} {xs zs:List V} (h:FzD D x z) (t:FzL D xs zs):FzL D (x::xs) (z::zs)
end
mutual
theorem FzD.rep {C':Ctx}{D:V->V->Prop}(E:Ext C C' w w)(hD:∀ x z v,D x z->Rep C w v x->Rep C' w v z):∀{x z:V},FzD D x z->∀{v:Value},Rep C w v x->Rep C' w v z
 |_,_,.hit h,_,hv=>hD _ _ _ h hv
 |_,_,.refl _,_,hv=>hv.mono E
 |_,_,.agg h,_,hv=>by cases hv with |agg hv=>exact .agg (FzL.rep E hD h hv)
 |_,_,.tup h,_,hv=>by cases hv with |tup hv=>exact .tup (FzL.rep E hD h hv)
theorem FzL.rep {C':Ctx}{D:V->V->Prop}(E:Ext C C' w w)(hD:∀ x z v,D x z->Rep C w v x->Rep C' w v z):∀{xs zs:List V},FzL D xs zs->∀{vs:List Value},RepL C w vs xs->RepL C' w vs zs
 |_,_,.nil,_,hv=>by cases hv;exact .nil
 |_,_,.cons h t,_,hv=>by cases hv with |cons hv hs=>exact .cons (FzD.rep E hD h hv) (FzL.rep E hD t hs)
end
def Dz (us:List (Nat×Nat×V)):V->V->Prop:=fun x z=>∃ u n,(u,n,z)∈us/\x=.hsl u 0 n
theorem fz_all:∀(us:List (Nat×Nat×V)) {C:Ctx} {h:List (Nat×HB)} (H:HSt C w h) (hd:distinct (us.map (·.1))=true)
 (hu:∀ u n z,(u,n,z)∈us->∃ sz rows rows',hget h u=some ⟨sz,rows⟩/\n=rows.length/\sz≠0/\(∀ row∈rows,row.all dpV=true)/\V.rlR f1k rows=rows'/\z=.psl 1 sz rows'),
 ∃ C' h',HSt C' w h'/\Ext C C' w w/\Fr C C' w w/\∀ x z v,Dz us x z->Rep C w v x->Rep C' w v z
 | [],C,h,H,_,_=>⟨C,h,H,Ext.refl _ _,Fr.refl _ _,fun x z v hx=>by obtain⟨_,_,h,_⟩:=hx;cases h⟩
 |(u,n,z)::us,C,h,H,hd,hu=>by
  simp only [List.map_cons,distinct,Bool.and_eq_true,Bool.not_eq_true']at hd;obtain ⟨sz,rows,rows',a1,a2,a3,a4,a5,rfl⟩:=hu u n z (by simp);obtain ⟨L,hL,_⟩:=H.ent u _ a1;obtain ⟨k1,k2⟩:=fz_core H hL;have hne:∀ u' n' z',(u',n',z')∈us->u'≠u:=fun u' n' z' hm e=>by
   subst e;obtain ⟨j,hj⟩:=List.getElem?_of_mem (List.mem_map_of_mem (f:=(·.1)) hm);exact gT hd.1 j hj
  obtain⟨C',h',b1,b2,b3,b4⟩:=fz_all us k1 hd.2 (fun u' n' z' hm=>by
   obtain⟨s',r',q',c1,c2⟩:=hu u' n' z' (by simp [hm]);exact ⟨s',r',q',by rw [O0,if_neg (hne _ _ _ hm)];exact c1,c2⟩)
  refine⟨C',h',b1,(fz_ext u L).trans b2,k2.trans b3,fun x z v hx hv=>?_⟩;obtain ⟨u',n',hm,rfl⟩:=hx;rcases List.mem_cons.1 hm with hm|hm
  .simp only [Prod.mk.injEq]at hm;obtain ⟨rfl,rfl,rfl⟩:=hm;exact (fz_rep H a1 a2 a3 a4 a5 hL hv).mono b2
  .exact b4 _ _ v ⟨u',n',hm,rfl⟩ (hv.mono (fz_ext u L))
end
section
variable {P:Program} {f:FuncId} {args:List V} {h:List (Nat×HB)} {nx:Nat}
structure FzR (b:HB) (n:Nat) (z:V):Prop where
 n:n=b.rows.length
 sz:Nat.beq b.sz 0=false
 dp:∀ row∈b.rows,row.all dpV=true
 z:z=.psl 1 b.sz (V.rlR f1k b.rows)
theorem FzR.ex {b:HB}{n:Nat}{z:V}(h:FzR b n z){H:List (Nat×HB)}{u:Nat}(hu:hget H u=some b):∃ sz rows rows',hget H u=some ⟨sz,rows⟩/\n=rows.length/\sz≠0/\(∀ row∈rows,row.all dpV=true)/\V.rlR f1k rows=rows'/\z=.psl 1 sz rows':=
 ⟨b.sz,b.rows,_,hu,h.n,fun e=>by have:=h.sz;rw [e]at this;simp at this,h.dp,rfl,h.z⟩
theorem fzr {α:Type}(c:Cd α)(l:Nat)(xs:List α)(hz:Nat.beq c.sz 0=false)(hd:∀ x,(c.row l x).all dpV=true):FzR ⟨c.sz,xs.map (c.enc l)⟩ xs.length (.psl 1 c.sz (xs.map (c.enc 1))):=
 ⟨by simp,hz,Cd.dps0 c l hd xs,by rw [c.rlR];rfl⟩
theorem fc_fz {R:V->List (Nat×HB)->Prop}{z:V}(hc:FC P f args h nx R)
 (hR:∀ x h2,R x h2->∃ us:List (Nat×Nat×V),distinct (us.map (·.1))=true/\FzD (Dz us) x z/\∀ u n z,(u,n,z)∈us->∃ b,hget h2 u=some b/\FzR b n z):FC P f args h nx (fun x _=>x=z):=
 ⟨hc.1,fun C w cargs h1 h2 h3=>(hc.2 C w cargs h1 h2 h3).mono fun e w' ⟨v,C',r,h',e1,e2,e3,e4,e5⟩=>by
  obtain⟨us,k1,k2,k3⟩:=hR r h' e5;obtain ⟨C2,H2,b1,b2,b3,b4⟩:=fz_all us e2 k1 (fun u n z hm=>by obtain⟨b,c1,c2⟩:=k3 u n z hm;exact c2.ex c1);exact ⟨v,C2,z,H2,e1,b1,FzD.rep b2 b4 k2 e3,e4.trans b3,rfl⟩⟩
theorem fc_fz1 {y:Nat->V}{z p1:V}{n1:Nat}{b1:HB}(hc:FC P f args h nx (fun x h2=>∃ j,x=y j/\hget h2 j=some b1))(r1:FzR b1 n1 p1)(hz:∀ j,FzD (Dz [(j,n1,p1)]) (y j) z):FC P f args h nx (fun x _=>x=z):=
 fc_fz hc fun x h2 ⟨j,e,g1⟩=>⟨[(j,n1,p1)],rfl,e ▸ hz j,fun u n z hm=>by simp only [List.mem_singleton,Prod.mk.injEq]at hm;obtain⟨rfl,rfl,rfl⟩:=hm;exact⟨b1,g1,r1⟩⟩
theorem fc_fz2 {y:Nat->Nat->V}{z p1 p2:V}{n1 n2:Nat}{b1 b2:HB}(hc:FC P f args h nx (fun x h2=>∃ j k,x=y j k/\distinct [j,k]=true/\hget h2 j=some b1/\hget h2 k=some b2))(r1:FzR b1 n1 p1)(r2:FzR b2 n2 p2)
 (hz:∀ j k,FzD (Dz [(j,n1,p1),(k,n2,p2)]) (y j k) z):FC P f args h nx (fun x _=>x=z):=
 fc_fz hc fun x h2 ⟨j,k,e,hd,g1,g2⟩=>⟨[(j,n1,p1),(k,n2,p2)],hd,e ▸ hz j k,fun u n z hm=>by
  simp only [List.mem_cons,List.not_mem_nil,or_false,Prod.mk.injEq]at hm;rcases hm with ⟨rfl,rfl,rfl⟩|⟨rfl,rfl,rfl⟩
  .exact ⟨b1,g1,r1⟩
  .exact ⟨b2,g2,r2⟩⟩
theorem fc_fz3 {y:Nat->Nat->Nat->V}{z p1 p2 p3:V}{n1 n2 n3:Nat}{b1 b2 b3:HB}(hc:FC P f args h nx (fun x h2=>∃ j k l,x=y j k l/\distinct [j,k,l]=true/\hget h2 j=some b1/\hget h2 k=some b2/\hget h2 l=some b3))(r1:FzR b1 n1 p1)(r2:FzR b2 n2 p2)(r3:FzR b3 n3 p3)
 (hz:∀ j k l,FzD (Dz [(j,n1,p1),(k,n2,p2),(l,n3,p3)]) (y j k l) z):FC P f args h nx (fun x _=>x=z):=
 fc_fz hc fun x h2 ⟨j,k,l,e,hd,g1,g2,g3⟩=>⟨[(j,n1,p1),(k,n2,p2),(l,n3,p3)],hd,e ▸ hz j k l,fun u n z hm=>by
  simp only [List.mem_cons,List.not_mem_nil,or_false,Prod.mk.injEq]at hm;rcases hm with ⟨rfl,rfl,rfl⟩|⟨rfl,rfl,rfl⟩|⟨rfl,rfl,rfl⟩
  .exact ⟨b1,g1,r1⟩
  .exact ⟨b2,g2,r2⟩
  .exact ⟨b3,g3,r3⟩⟩
theorem dz1 {u n:Nat}{p:V}{us:List (Nat×Nat×V)}:FzD (Dz ((u,n,p)::us)) (.hsl u 0 n) p:=.hit ⟨u,n,by simp,rfl⟩
theorem dz2 {u n:Nat}{p:V}{a:Nat×Nat×V}{us:List (Nat×Nat×V)}:FzD (Dz (a::(u,n,p)::us)) (.hsl u 0 n) p:=.hit ⟨u,n,by simp,rfl⟩
theorem dz3 {u n:Nat}{p:V}{a b:Nat×Nat×V}{us:List (Nat×Nat×V)}:FzD (Dz (a::b::(u,n,p)::us)) (.hsl u 0 n) p:=.hit ⟨u,n,by simp,rfl⟩
end
end Go.Abs

namespace Go.Abs
def eg:Nat->List HB->List (Nat×HB)
 |_,[]=>[]
 |i,b::r=>(i,b)::eg (i+1) r
def eh (h2:List (Nat×HB)):Nat->List HB->Prop
 |_,[]=>True
 |i,[c]=>hget h2 i=some c
 |i,c::c2::r=>hget h2 i=some c/\eh h2 (i+1) (c2::r)
theorem ra1 {h2:List (Nat×HB)}{i:Nat}{c:HB}(h:hget h2 i=some c):eh h2 i [c]:=h
theorem raC {h2:List (Nat×HB)}{i:Nat}{c c2:HB}{r:List HB}(h:hget h2 i=some c)(t:eh h2 (i+1) (c2::r)):eh h2 i (c::c2::r):=⟨h,t⟩
theorem F6 {α β:Type}(K:Kc α)(E:Kc β)(f:Nat->Nat)(m:List (α×β)):V.rlR f [ee K E m]=[ee K E m]:=by simp [V.rlR,mrow_rl]
theorem sF:∀(bs:List HB) (i j:Nat),hget (eg i bs) (i+j)=bs[j]?
 | [],_,_=>rfl
 |b::r,i,0=>by simp [eg,hget]
 |b::r,i,j+1=>by
  simp only [eg,hget];rw [Bool.cond_eq_ite,if_neg (by simp)];have:=sF r (i+1) j;rw [show i+(j+1)=i+1+j by omega,this];simp
theorem sP {h2:List (Nat×HB)}:∀(cs:List HB) (i j:Nat) (c:HB),eh h2 i cs->cs[j]? =some c->hget h2 (i+j)=some c
 | [],_,_,_,_,h=>by simp at h
 | [c0],i,0,c,hr,h=>by simp at h;subst h;exact hr
 | [c0],i,j+1,c,hr,h=>by simp at h
 |c0::c2::r,i,0,c,hr,h=>by simp at h;subst h;exact hr.1
 |c0::c2::r,i,j+1,c,hr,h=>by
  have:=sP (c2::r) (i+1) j c hr.2 (by simpa using h);rw [show i+(j+1)=i+1+j by omega];exact this
theorem K9 {T:List TI}{s:St}{rs:List ResultVar}{r x:V}{cs:List HB}(h:resV T s rs=some r)(hR:VLe r x)(hQ:eh s.heap 0 cs):retK T rs (fun y h2=>VLe y x/\eh h2 0 cs) .ret s:=⟨r,h,hR,hQ⟩
inductive RnB (g:Nat->Option Nat):List HB->List HB->Prop
 |nil:RnB g [] []
 |cons {sz:Nat} {rows0 rows:List (List V)} {bs0 bs:List HB} (h:rnR g rows0=rows) (t:RnB g bs0 bs):RnB g (⟨sz,rows0⟩::bs0) (⟨sz,rows⟩::bs)
theorem RnB.length {g:Nat->Option Nat}:∀{bs0 bs:List HB},RnB g bs0 bs->bs0.length=bs.length
 |_,_,.nil=>rfl
 |_,_,.cons _ t=>by simp [t.length]
theorem RnB.get {g:Nat->Option Nat}:∀{bs0 bs:List HB},RnB g bs0 bs->∀(j:Nat) (b:HB),bs[j]? =some b->∃ b0,bs0[j]? =some b0/\b.sz=b0.sz/\b.rows=rnR g b0.rows
 |_,_,.nil,j,b,h=>by simp at h
 |_,_,.cons h0 t,0,b,h=>by simp at h;subst h;exact⟨_,rfl,rfl,h0.symm⟩
 |_,_,.cons h0 t,j+1,b,h=>by simpa using t.get j b (by simpa using h)
def St.wrL:St->List Nat->List HB->St
 |s,u::us,b::bs=>(s.wr u b).wrL us bs
 |s,_,_=>s
theorem az5:∀(us:List Nat) (bs:List HB) (s:St),(s.wrL us bs).env=s.env/\(s.wrL us bs).nx=s.nx/\(s.wrL us bs).n=s.n/\(s.wrL us bs).lv=s.lv
 | [],_,s=>⟨rfl,rfl,rfl,rfl⟩
 |_::_,[],s=>⟨rfl,rfl,rfl,rfl⟩
 |u::us,b::bs,s=>by
  obtain⟨h1,h2,h3,h4⟩:=az5 us bs (s.wr u b);cases s;exact ⟨h1,h2,h3,h4⟩
theorem al5:∀(us:List Nat) (bs:List HB) (s:St) (x:Nat),us.length=bs.length->distinct us=true->hget (s.wrL us bs).heap x=match dn us x with |some j=>bs[j]? |none=>hget s.heap x
 | [],_,s,x,_,_=>rfl
 |_::_,[],s,x,hl,_=>by simp at hl
 |u::us,b::bs,s,x,hl,hd=>by
  simp only [distinct,Bool.and_eq_true,Bool.not_eq_true']at hd;have ih:=al5 us bs (s.wr u b) x (by simpa using hl) hd.2;show hget ((s.wr u b).wrL us bs).heap x=_;rw [ih];simp only [dn];cases e:Nat.beq x u with
  |true=>
   rw [Nat.beq_eq]at e;subst e;have:dn us x=none:=by
    cases hj:dn us x with
    |none=>rfl
    |some j=>exact absurd (cZ hj) (gT hd.1 j)
   rw [this];cases s;simp [St.wr,hget]
  |false=>
   cases hj:dn us x with
   |none=>
    cases s;simp only [St.wr,hget,e,cond_false]
   |some j=>simp
section
variable {P:Program} {s:St} {ops:Array Oper} {f:FuncId} {args:List Operand} {args':List V} {tys:Array TypeId} {d:Option Nat} {ty:Nat} {pos:String} {af:Array Edge} {gu:Option (Nat×Bool)} {r:List Oper} {K:St->Prop} {s1:St}
theorem o5 (us:List Nat){bs0 bs cs cs0:List HB}{y y':V}(hc:FC P f args' (eg 0 bs) 12 (fun x h2=>x=y/\eh h2 0 cs))(hg:gd ops.toList s gu=some true)
 (hl:Nat.ble us.length 12=true) (hd:distinct us=true) (hlen:(Nat.beq us.length bs.length&&Nat.beq us.length cs.length)=true) (hv:V.rnL (dn us) (evL s args)=args')
 (hu:us.map (hget s.heap)=bs0.map some) (hin:RnB (dn us) bs0 bs) (hy:y.rn (us[·]?)=y') (hout:RnB (us[·]?) cs cs0) (hp:(s.wrL us cs0).put d y'=some s1) (h:AOps P ops r s1 K):
 AOps P ops (⟨d,.call ⟨.value (.func f),⟨args⟩,tys⟩,ty,pos,af,gu⟩::r) s K:=by
 rw [Bool.and_eq_true,Nat.beq_eq,Nat.beq_eq]at hlen;have hu':∀(j:Nat) b0,bs0[j]? =some b0->∃ u,us[j]? =some u/\hget s.heap u=some b0:=fun j b0 hj=>by
  have h1:(us.map (hget s.heap))[j]? =some (some b0):=by rw [hu];simp [hj]
  simp only [List.getElem?_map,Option.map_eq_some_iff]at h1;exact h1
 refine ad7 us hc hg hl hd hv ⟨fun j hj=>?_,fun j hb' hj=>?_⟩ fun x h2 hR=>⟨(s.wrL us cs0).heap,s1,fun x=>⟨fun j hj=>?_,fun hj=>?_⟩,?_,h⟩
 .have h0:=sF bs 0 j;rw [Nat.zero_add]at h0;rw [h0]at hj;have:=List.getElem?_eq_none_iff.1 hj;exact List.getElem?_eq_none (by omega)
 .have h0:=sF bs 0 j;rw [Nat.zero_add]at h0;rw [h0]at hj;obtain ⟨b0,h1,h2,h3⟩:=hin.get j hb' hj;obtain ⟨u,h4,h5⟩:=hu' j b0 h1;exact ⟨u,b0,h4,h5,h2,h3⟩
 .rw [al5 us cs0 s x (hlen.2.trans hout.length) hd,hj];have hjl:j<us.length:=by
   have:=cZ hj;rcases Nat.lt_or_ge j us.length with h|h
   .exact h
   .simp [List.getElem?_eq_none h]at this
  have hcl:=hout.length;obtain ⟨c0,hc0⟩:∃ c0,cs0[j]? =some c0:=⟨cs0[j]'(by omega),List.getElem?_eq_getElem (by omega)⟩
  have hcj:∃ c,cs[j]? =some c:=⟨cs[j]'(by omega),List.getElem?_eq_getElem (by omega)⟩
  obtain⟨c,hcj⟩:=hcj;have h1:=sP cs 0 j c hR.2 hcj;rw [Nat.zero_add]at h1;obtain ⟨c1,k1,k2,k3⟩:=hout.get j c0 hc0;rw [hcj]at k1;simp only [Option.some.injEq]at k1;subst k1;rw [h1];show cs0[j]? =_;rw [hc0];cases c0;simp only at k2 k3;simp only [Option.map_some,<- k2,<- k3]
 .rw [al5 us cs0 s x (hlen.2.trans hout.length) hd,hj]
 .rw [hR.1,hy];obtain ⟨e1,e2,e3,e4⟩:=az5 us cs0 s;have:({ s with heap:=(s.wrL us cs0).heap }:St)=s.wrL us cs0:=by
   cases h:s.wrL us cs0;rw [h]at e1 e2 e3 e4;simp only at e1 e2 e3 e4;subst e1;subst e2;subst e3;subst e4;rfl
  rw [this];exact hp
end
def omrow {α β:Type}(K:Kc α)(E:Kc β):Option (List (α×β))->List (List V)
 |none=>[]
 |some m=>[ee K E m]
theorem omrow_rn {α β:Type}(K:Kc α)(E:Kc β)(g:Nat->Option Nat):∀ o:Option (List (α×β)),rnR g (omrow K E o)=omrow K E o
 |none=>rfl
 |some m=>by simp [omrow,rnR,mrow_rn]
theorem Q3 {α β:Type}(K:Kc α)(E:Kc β)(g:Nat->Option Nat)(m:List (α×β)):rnR g [ee K E m]=[ee K E m]:=omrow_rn K E g (some m)
theorem T9 {α β:Type}(K:Kc α)(E:Kc β)(n:Nat):∀ o:Option (List (α×β)),∀ row∈omrow K E o,RowOk n row
 |none=>fun _ h=>by cases h
 |some m=>m7 (m9 K E n m)
section
variable {s s':St}
def St.nilcellM:St->Nat->Nat->List V->List V->St
 |⟨env,heap,nx,n,lv⟩,u,rsz,pre,suf=>⟨env,(u,⟨rsz,[pre++ .mp nx 0::suf]⟩)::(nx,⟨0,[]⟩)::heap,nx+1,n,lv⟩
theorem rep_nilm {C:Ctx}{w:World}{v:Value}(h:Rep C w v .nilm):Rep (C.set C.nx ⟨none,0,0,0⟩ (C.nx+1)) w v (.mp C.nx 0):=by
 cases h;refine .mp (Nat.lt_succ_self _) fun L hL=>?_;simp only [Ctx.set,if_pos]at hL;simp only [Option.some.injEq]at hL;subst hL;exact ⟨Nat.le_refl _,fun _=>.inl ⟨rfl,rfl⟩⟩
theorem tW (u:Nat){rsz:Nat}{pre suf row:List V}(hu:hget s.heap u=some ⟨rsz,[row]⟩)(hr:row=pre++ .nilm::suf)(hs':s.nilcellM u rsz pre suf=s'):Le s s':=fun C w a hs=>by
 subst hs';subst hr;obtain ⟨h1,h2,h3⟩:=af8 hs.heap 0;cases s with
 |mk env heap nx n lv=>
  have hnx:C.nx=nx:=hs.nx;subst hnx;refine ⟨_,⟨hs.defers,hs.size,rfl,fun j=>(hs.env j).mono h2,?_,hs.lv⟩,h3⟩;have hlt:u<C.nx:=by obtain⟨L,e1,_⟩:=hs.heap.ent _ _ hu;exact hs.heap.lt u L e1
  refine⟨fun x hx=>?_,fun x hb hx=>?_,h1.lt,h1.inj,h1.own,h1.regs,h1.lvs,h1.rdis,h1.zero,h1.two,⟨fun x hb M hx hM=>?_,h1.sub.s0,h1.sub.nd,h1.sub.lt,h1.sub.root,h1.sub.dis,h1.sub.reg⟩,h1.tab⟩
  .simp only [St.nilcellM,hget]at hx;rw [Bool.cond_eq_ite]at hx;split at hx
   .cases hx
   .exact h1.dom x hx
  .simp only [St.nilcellM,hget]at hx;rw [Bool.cond_eq_ite]at hx;split at hx
   .rename_i he;rw [Nat.beq_eq]at he;subst he;simp only [Option.some.injEq]at hx;subst hx;have hu1:hget ((C.nx,⟨0,[]⟩)::heap) x=some ⟨rsz,[pre++ .nilm::suf]⟩:=by
     simp only [hget];rw [Bool.cond_eq_ite,if_neg (by simp;omega)];exact hu
    obtain⟨L,e1,e2,e3,e4⟩:=h1.ent _ _ hu1;refine ⟨L,e1,e2,e3,?_⟩;obtain ⟨L0,f1,f2,f3,f4⟩:=hs.heap.ent _ _ hu;have eL:L=L0:=by
     have:(C.set C.nx ⟨none,0,0,0⟩ (C.nx+1)).loc x=C.loc x:=by simp only [Ctx.set];rw [if_neg (by omega)]
     rw [this,f1]at e1;simpa using e1.symm
    subst eL;have key:∀{vs:List Value} {pre:List V},RepL C w vs (pre++ .nilm::suf)->RepL (C.set C.nx ⟨none,0,0,0⟩ (C.nx+1)) w vs (pre++ .mp C.nx 0::suf):=by
     intro vs pre;induction pre generalizing vs with
     |nil=>intro h;cases h with |cons h t=>exact .cons (rep_nilm h) (RepL.mono h2 t)
     |cons x pre ih=>intro h;cases h with |cons h t=>exact .cons (h.mono h2) (ih t)
    refine Blk.imp (rows:=[pre++ .nilm::suf]) (by simp) (fun e=>by simp at e) (fun _ _=>rfl) (fun b hn h=>?_) (fun ents he=>?_) f4
    .obtain ⟨vals,g5⟩:=h;refine ⟨vals,fun i row hi=>?_⟩;cases i with
     |succ i=>simp at hi
     |zero=>
      simp at hi;subst hi;obtain ⟨q1,q2,q3⟩:=g5 0 _ rfl;exact ⟨q1,q2,key q3⟩
    .simp only [List.cons.injEq,and_true]at he;subst he;exact ⟨_,rfl,fun vs hv=>key hv⟩
   .exact h1.ent x hb hx
  .simp only [St.nilcellM,hget]at hx;rw [Bool.cond_eq_ite]at hx;split at hx
   .rename_i he;rw [Nat.beq_eq]at he;subst he;simp only [Option.some.injEq]at hx;subst hx;have hu1:hget ((C.nx,⟨0,[]⟩)::heap) x=some ⟨rsz,[pre++ .nilm::suf]⟩:=by
     simp only [hget];rw [Bool.cond_eq_ite,if_neg (by simp;omega)];exact hu
    exact ae3 rfl rfl (h1.sub.dp x _ M hu1 hM)
   .exact h1.sub.dp x hb M hx hM
def St.mvmap:St->Nat->Nat->Nat->Nat->List V->List V->List V->St
 |⟨env,heap,nx,n,lv⟩,u,a,b,rsz,pre,suf,r=>⟨env,(u,⟨rsz,[pre++ .mp b 1::suf]⟩)::(b,⟨0,[r]⟩)::hdel a heap,nx,n,lv⟩
theorem le_mvmap (u a b:Nat){rsz:Nat}{pre suf row r:List V}(hu:hget s.heap u=some ⟨rsz,[row]⟩)(hr:row=pre++ .mp a 1::suf)(ha:hget s.heap a=some ⟨0,[r]⟩)(hb:hget s.heap b=some ⟨0,[]⟩)
 (hne:(!Nat.beq a b&&!Nat.beq u a&&!Nat.beq u b)=true) (hs':s.mvmap u a b rsz pre suf r=s'):Le s s':=fun C w ac hs=>by
 subst hs';subst hr;simp only [Bool.and_eq_true,Bool.not_eq_true',<- Bool.not_eq_true,Nat.beq_eq]at hne;obtain ⟨⟨nab,nua⟩,nub⟩:=hne;have H:=hs.heap;obtain ⟨La,a1,a2,a3,a4⟩:=H.ent _ _ ha;obtain ⟨Lb,b1,b2,b3,b4⟩:=H.ent _ _ hb;have a2':La.sz=0:=a2;have a3':La.n=1:=a3;have b3':Lb.n=0:=b3;have sa:C.sub a=[]:=by
  have:=H.sub.dp a _ La ha a1;unfold Deep at this;split at this
  .exact this
  .exact this.1 a2'
 have sb:C.sub b=[]:=by
  have:=H.sub.dp b _ Lb hb b1;unfold Deep at this;split at this
  .exact this
  .exact this.1 b2
 let C':Ctx:={ C with loc:=fun x=>if x=a then none else if x=b then C.loc a else C.loc x }
 have hloc:∀{x L},C'.loc x=some L->x≠a/\((x=b/\L=La)\/(x≠b/\C.loc x=some L)):=fun{x L} h=>by
  simp only [C']at h;split at h
  .cases h
  .rename_i hxa;split at h
   .rename_i hxb;rw [a1]at h;exact⟨hxa,.inl ⟨hxb,(Option.some.inj h).symm⟩⟩
   .rename_i hxb;exact⟨hxa,.inr ⟨hxb,h⟩⟩
 have hpi:∀{x L},C'.loc x=some L->∃ y,C.loc y=some L/\(x=b/\y=a\/x≠b/\y=x/\x≠a):=fun{x L} h=>by
  obtain⟨h1,⟨h2,h3⟩|⟨h2,h3⟩⟩:=hloc h
  .subst h3;exact⟨a,a1,.inl ⟨h2,rfl⟩⟩
  .exact ⟨x,h3,.inr ⟨h2,rfl,h1⟩⟩
 have E:Ext C C' w w:=by
  refine⟨Nat.le_refl _,fun x L' _ h=>?_,fun _ _ h=>h,fun _ _ _ _ h=>⟨h,rfl⟩⟩;obtain ⟨_,⟨h2,h3⟩|⟨_,h3⟩⟩:=hloc h
  .subst h2;subst h3;exact⟨Lb,b1,.inr (by omega)⟩
  .exact ⟨L',h3,.inl rfl⟩
 have F:Fr C C' w w:=by
  refine⟨Nat.le_refl _,fun _ _ _=>rfl,fun c h=>?_,fun _ h=>h,fun _ h=>.inl h,rfl,rfl,fun x hx L' h=>E.loc x L' (by have:=H.two;show x<C.nx;omega) h⟩;rcases h with ⟨x,L,h1,h2⟩|⟨l,h⟩|⟨x,h⟩
  .obtain ⟨y,h3,_⟩:=hpi h1;exact .inl (.inl ⟨y,L,h3,h2⟩)
  .exact .inl (.inr (.inl ⟨l,h⟩))
  .exact .inl (.inr (.inr ⟨x,h⟩))
 have hcell:∀{v:Value},Rep C w v (.mp a 1)->Rep C' w v (.mp b 1):=fun{v} h=>by
  cases h with
  |mp h1 h2=>
   refine .mp (H.lt b Lb b1) fun L hL=>?_;obtain ⟨_,⟨_,h3⟩|⟨h3,_⟩⟩:=hloc hL
   .subst h3;exact h2 _ a1
   .exact absurd rfl h3
 cases s with
 |mk env heap nx n lv=>
  have hget':∀ x,hget ((u,⟨rsz,[pre++ .mp b 1::suf]⟩)::(b,⟨0,[r]⟩)::hdel a heap) x=if x=u then some ⟨rsz,[pre++ .mp b 1::suf]⟩else if x=b then some ⟨0,[r]⟩else if x=a then none else hget heap x:=fun x=>by
   simp only [hget,Bool.cond_eq_ite,O0,Nat.beq_eq]
  refine⟨C',⟨hs.defers,hs.size,hs.nx,fun j=>(hs.env j).mono E,?_,hs.lv⟩,F⟩;show HSt C' w ((u,⟨rsz,[pre++ .mp b 1::suf]⟩)::(b,⟨0,[r]⟩)::hdel a heap);refine ⟨fun x hx=>?_,fun x hbx hx=>?_,fun x L hL=>?_,fun x x' L L' c h1 h2 h3 h4=>?_,fun x L c l h1 h2 h3 h4=>?_,H.regs,H.lvs,H.rdis,H.zero,H.two,⟨fun x hbx M hx hM=>?_,fun x hx=>?_,H.sub.nd,H.sub.lt,fun x c x' L h1 h2 h3=>?_,H.sub.dis,H.sub.reg⟩,H.tabE E H.zero.1⟩
  .rw [hget']at hx;split at hx
   .cases hx
   .split at hx
    .cases hx
    .rename_i hxb;split at hx
     .rename_i hxa;simp [C',hxa]
     .rename_i hxa;simp [C',hxa,hxb,H.dom x hx]
  .rw [hget']at hx;split at hx
   .rename_i hxu;subst hxu;simp only [Option.some.injEq]at hx;subst hx;obtain ⟨L,f1,f2,f3,f4⟩:=H.ent _ _ hu;refine ⟨L,by simp [C',nua,nub,f1],f2,f3,?_⟩;have key:∀{vs:List Value} {pre:List V},RepL C w vs (pre++ .mp a 1::suf)->RepL C' w vs (pre++ .mp b 1::suf):=by
     intro vs pre;induction pre generalizing vs with
     |nil=>intro h;cases h with |cons h t=>exact .cons (hcell h) (RepL.mono E t)
     |cons x pre ih=>intro h;cases h with |cons h t=>exact .cons (h.mono E) (ih t)
    refine Blk.imp (rows:=[pre++ .mp a 1::suf]) (by simp) (fun e=>by simp at e) (fun _ _=>rfl) (fun b hn h=>?_) (fun ents he=>?_) f4
    .obtain ⟨vals,g5⟩:=h;refine ⟨vals,fun i row hi=>?_⟩;cases i with
     |succ i=>simp at hi
     |zero=>
      simp at hi;subst hi;obtain ⟨q1,q2,q3⟩:=g5 0 _ rfl;exact ⟨q1,q2,key q3⟩
    .simp only [List.cons.injEq,and_true]at he;subst he;exact ⟨_,rfl,fun vs hv=>key hv⟩
   .rename_i hxu;split at hx
    .rename_i hxb;subst hxb;simp only [Option.some.injEq]at hx;subst hx;exact ⟨La,by simp [C',Ne.symm nab,a1],a2,a3,a4.mono E (fun _ _=>rfl)⟩
    .rename_i hxb;split at hx
     .cases hx
     .rename_i hxa;obtain ⟨L,g1,g2,g3,g4⟩:=H.ent x hbx hx;exact ⟨L,by simp [C',hxa,hxb,g1],g2,g3,g4.mono E (fun _ _=>rfl)⟩
  .obtain ⟨_,⟨h2,_⟩|⟨_,h3⟩⟩:=hloc hL
   .subst h2;exact H.lt _ Lb b1
   .exact H.lt x L h3
  .obtain ⟨y,g1,g2⟩:=hpi h1;obtain ⟨y',g3,g4⟩:=hpi h2;have:=H.inj y y' L L' c g1 g3 h3 h4;rcases g2 with ⟨e1,e2⟩|⟨e1,e2,e3⟩<;>rcases g4 with ⟨e4,e5⟩|⟨e4,e5,e6⟩<;>omega
  .obtain ⟨y,g1,_⟩:=hpi h1;exact H.own y L c l g1 h2 h3 h4
  .rw [hget']at hx;split at hx
   .rename_i hxu;subst hxu;simp only [Option.some.injEq]at hx;subst hx;have hM':C.loc x=some M:=by
     obtain⟨_,⟨h2,_⟩|⟨_,h3⟩⟩:=hloc hM
     .exact absurd h2 nub
     .exact h3
    exact ae3 rfl rfl (H.sub.dp x _ M hu hM')
   .split at hx
    .rename_i hxb;subst hxb;simp only [Option.some.injEq]at hx;subst hx;obtain ⟨_,⟨_,h3⟩|⟨h3,_⟩⟩:=hloc hM
     .subst h3;show Deep w M (C.sub x) _;rw [sb];have:=H.sub.dp a _ M ha a1;rw [sa]at this;unfold Deep at this |-;exact this
     .exact absurd rfl h3
    .rename_i hxb;split at hx
     .cases hx
     .obtain ⟨_,⟨h2,_⟩|⟨_,h3⟩⟩:=hloc hM
      .exact absurd h2 hxb
      .exact H.sub.dp x hbx M hx h3
  .show C.sub x=[]
   by_cases hxa:x=a
   .rw [hxa];exact sa
   .by_cases hxb:x=b
    .rw [hxb];exact sb
    .simp only [C',hxa,hxb,if_false]at hx;exact H.sub.s0 x hx
  .obtain ⟨y,g1,_⟩:=hpi h2;exact H.sub.root x c y L h1 g1 h3
def mapTy (T:List TI)(t:Nat):Bool:=match T[t]? with
 |some ti=>(match ti.kind with
  |.map _ _=>true
  |_=>false)
 |none=>false
theorem mapTy_spec {P:Program}{T:List TI}{t:Nat}(hT:TabOK P T)(h:mapTy T t=true):∃ k e,P.underlying t=some (.map k e):=by
 unfold mapTy at h;split at h
 .rename_i ti ht;split at h
  .rename_i k e hk;exact ⟨k,e,hT.map ht hk⟩
  .cases h
 .cases h
theorem aa9 {P:Program}{t k e:Nat}(hu:P.underlying t=some (.map k e))(w:World)(n:Nat):(Op.equalIn (n+1) t (.map none) (.map none)).run P w=.ok true w:=by
 simp only [Op.equalIn,Sem.run_bind,run_underlying hu,Result.andThen_ok,Sem.run_pure];rfl
theorem am6 {P:Program}{t k e:Nat}(hu:P.underlying t=some (.map k e))(w:World):(Op.equal t (.map none) (.map none)).run P w=.ok true w:=aa9 hu w 9999
theorem yU {P:Program}{t k e b:Nat}(hu:P.underlying t=some (.map k e))(w:World)(n:Nat):(Op.equalIn (n+1) t (.map (some b)) (.map none)).run P w=.ok false w:=by
 simp only [Op.equalIn,Sem.run_bind,run_underlying hu,Result.andThen_ok,Sem.run_pure]
theorem aj0 {P:Program}{t k e b:Nat}(hu:P.underlying t=some (.map k e))(w:World):(Op.equal t (.map (some b)) (.map none)).run P w=.ok false w:=yU hu w 9999
theorem ov_mnil {P:Program}{T:List TI}{α β:Type}{K:Kc α}{E:Kc β}{t t' u:Nat}{x y:Operand}{o:Option (List (α×β))} [Decidable (o=none)] (hT:TabOK P T)(ht:mapTy T t=true)(hx:ev s x=.mp u (omrow K E o).length)(hu:hget s.heap u=some ⟨0,omrow K E o⟩)(hy:ev s y=.nilm):
 OpVal P s (.binOp .eql t x y t') (.bool (decide (o=none))):=fun C w ac hs d ty pos af gu=>by
 have hv:=hs.ev x;rw [hx]at hv;have hv2:=hs.ev y;rw [hy]at hv2;generalize e1:ac.eval x=v at hv;generalize e2:ac.eval y=v2 at hv2;cases hv2;obtain ⟨k,e,hk⟩:=mapTy_spec hT ht;obtain ⟨L,h1,h2,h3,h4⟩:=hs.heap.ent _ _ hu;cases hv with
 |mp g1 g2=>
  refine⟨_,fun w' _=>?_,.bool _⟩;rcases (g2 L h1).2 (by rw [h3])with ⟨k0,rfl⟩|⟨k1,b,_,_,rfl⟩
  .have:o=none:=by cases o with |none=>rfl|some m=>simp [omrow]at k0
   subst this;simp [execOp,e1,e2,eqGuard,binOp,am6 hk]
  .have:¬ o=none:=by cases o with |none=>simp [omrow]at k1|some m=>simp
   simp [execOp,e1,e2,eqGuard,binOp,aj0 hk,this]
end
end Go.Abs

namespace Go.Abs
open Region
def onlyN (Q:Exit->Act->World->Prop)(N:Act->World->Prop):Exit->Act->World->Prop
 |.normal,a,w=>N a w
 |e,a,w=>Q e a w
theorem wp_onlyN {P:Program}{o:Oper}{a:Act}{w:World}{K:Act->World->Prop}{Q:Exit->Act->World->Prop}{N:Act->World->Prop}(hh:o.wp P a w K (onlyN Q N)):o.wp P a w K Q:=by
 unfold Oper.wp at *;generalize (execOp a.eval o).run P w=r at *;cases r with
 |ok n w'=>
  cases n<;>simp only [Oper.upon]at hh |-<;>
   first
    |exact hh
    |exact Calls.mono hh (fun e w'' he=>by cases e<;>exact he)
 |halt x w'=>cases x<;>simp only [Oper.upon]at hh |-<;>exact hh
section
variable {P:Program} {ops:List Oper} {m:Nat} {J:St}
def APerm (P:Program)(ops:List Oper)(m:Nat)(J:St):Nat->Array Bool->St->Prop
 |0,listed,s=>(List.range m).all (fun i=>listed.getD i false)=true/\Le s J
 |f+1,listed,s=>ready .any ⟨ops⟩ listed≠ []/\∀ i∈ready .any ⟨ops⟩ listed,i<m/\∃ o,ops[i]? =some o/\AOps P ⟨ops⟩ [o] s (APerm P ops m J f (listed.setIfInBounds i true))
def AAllP (P:Program)(ops:List Oper)(m:Nat)(J:St)(f:Nat)(listed:Array Bool)(s:St):List Nat->Prop
 | []=>True
 |i::r=>(∃ o,ops[i]? =some o/\AOps P ⟨ops⟩ [o] s (APerm P ops m J f (listed.setIfInBounds i true)))/\AAllP P ops m J f listed s r
theorem aall_mem {f:Nat}{listed:Array Bool}{s:St}:∀{is:List Nat},AAllP P ops m J f listed s is->∀ i∈is,∃ o,ops[i]? =some o/\AOps P ⟨ops⟩ [o] s (APerm P ops m J f (listed.setIfInBounds i true))
 |_::_,h,i,hi=>by
  rcases List.mem_cons.1 hi with rfl|hi
  .exact h.1
  .exact aall_mem h.2 i hi
theorem aperm_step {f:Nat}{listed:Array Bool}{s:St}(is:List Nat)(hr:ready .any ⟨ops⟩ listed=is)(hm:(!is.isEmpty&&is.all fun i=>Nat.blt i m)=true)(h:AAllP P ops m J f listed s is):APerm P ops m J (f+1) listed s:=by
 rw [Bool.and_eq_true,List.all_eq_true]at hm;refine ⟨fun e=>?_,fun i hi=>⟨?_,?_⟩⟩
 .rw [<- hr,e]at hm;simp at hm
 .rw [hr]at hi;simpa using hm.2 i hi
 .rw [hr]at hi;exact aall_mem h i hi
theorem xX {K:St->Prop}{C0:Ctx}{w0:World}{Q:Exit->Act->World->Prop}{g:Nat}(hok:drawOk ops m=true)(hlen:m+g=ops.length)(hQ:Goal C0 w0 K Q)(hJ:AOps P ⟨ops⟩ (ops.drop m) J K):
 ∀(f:Nat) (listed:Array Bool) (s:St) (C:Ctx) (w:World) (a:Act),APerm P ops m J f listed s->LInv ops listed->(∀ i,m<=i->i<ops.length->listed.getD i true=false)->StRep C w a s->Fr C0 C w0 w->wpAny P .any ⟨ops⟩ Q (f+g) listed a w
 |0,listed,s,C,w,a,⟨hl,hle⟩,inv,hno,hs,hF=>by
  rw [Nat.zero_add];obtain ⟨C',h1,h2⟩:=hle C w a hs;refine ay0 hok g m listed a w hlen (Nat.le_refl _) inv (fun i hi=>List.all_eq_true.1 hl i (List.mem_range.2 hi)) hno ?_;exact hJ C' w a Q h1 (fun C2 w2 a2 s2 r1 r2 r3=>hQ C2 w2 a2 s2 r1 ((hF.trans h2).trans r2) r3)
 |f+1,listed,s,C,w,a,⟨hne,hall⟩,inv,hno,hs,hF=>by
  rw [show f+1+g=(f+g)+1 by omega];refine ⟨fun e=>absurd e hne,fun i hi=>?_⟩;obtain ⟨him,o,ho,hop⟩:=hall i hi;have next:∀ a' w',(∃ C' s1,StRep C' w' a' s1/\Fr C C' w w'/\APerm P ops m J f (listed.setIfInBounds i true) s1)->wpAny P .any ⟨ops⟩ Q (f+g) (listed.setIfInBounds i true) a' w':=fun a' w' ⟨C',s1,h1,h2,hper⟩=>
   xX hok hlen hQ hJ f _ s1 C' w' a' hper (inv.set hi) (fun k h1 h2=>by rw [getD_set_ne true (by omega)];exact hno k h1 h2) h1 (hF.trans h2)
  have h:=hop C w a (onlyN Q fun a' w'=>∃ C' s1,StRep C' w' a' s1/\Fr C C' w w'/\APerm P ops m J f (listed.setIfInBounds i true) s1) hs (fun C' w' a' s' h1 h2 h3=>⟨C',s',h1,h2,h3⟩);have hop':(⟨ops⟩:Array Oper)[i]? =some o:=by simpa using ho
  unfold wpOp;rw [hop'];simp only;unfold wpList at h;split at h
  .rename_i hw;rw [if_pos hw];exact h.imp (fun h=>Oper.wp_mono next (wp_onlyN h)) id
  .rename_i hw;rw [if_neg hw];exact next _ _ h
theorem at_perm {id:Nat}{l:List Oper}{s:St}{K:Exit->St->Prop}(m:Nat)(J:St)(hm:P.follows .mixedOrders=true)(hok:drawOk l m=true)
 (h:APerm P l m J m (Array.replicate l.length false) s) (hJ:AOps P ⟨l⟩ (l.drop m) J (fun s'=>K .normal s')):AT P (.region id ⟨l⟩ true) s K:=by
 intro C w a hs;obtain ⟨c1,c2,c3,c4,c5⟩:=chkAnd hok;have c5':m<=l.length:=c5;have hw:Agree w { w with drawn:=w.drawn+1 }:=⟨Nat.le_refl _,fun _ _=>rfl,rfl,rfl⟩
 have hs0:StRep C { w with drawn:=w.drawn+1 } a s:=lQ hs hw;refine wp_region_any hm ?_;have hsz:(⟨l⟩:Array Oper).size=m+(l.length-m):=by show l.length=_;omega
 rw [hsz,<- hsz];have key:=xX (K:=fun s'=>K .normal s') (C0:=C) (w0:=w) (Q:=Post C w K) (g:=l.length-m) hok (by omega) (fun C' w' a' s' h1 h2 h3=>⟨C',s',h1,h2,h3⟩) hJ m (Array.replicate l.length false) s C { w with drawn:=w.drawn+1 } a h ⟨by simp,fun i k hi _=>by rw [aN]at hi;cases hi⟩ (fun i h1 h2=>by
  rw [nP (by simpa using h2)];exact aN _ _) hs0 (rS hw)
 rw [show m+(l.length-m)=(⟨l⟩:Array Oper).size from hsz.symm]at key;exact key
end
section
variable {P:Program} {T:List TI} {s:St} {ops:Array Oper}
theorem call_ion {f:FuncId}{args:List Operand}{args' pre suf:List V}{tys:Array TypeId}{d:Option Nat}{ty:Nat}{pos:String}{af:Array Edge}{gu:Option (Nat×Bool)}{r:List Oper}{K:St->Prop}{s1:St}
 (u:Nat) {sz sz2:Nat} {rows2:List (List V)} {y y':V} (hc:FC P f args' [(0,⟨sz,[]⟩)] 12 (fun x h2=>x=y/\hget h2 0=some ⟨sz2,rows2⟩)) (hg:gd ops.toList s gu=some true) (hn:s.nx=u) (ha:evL s args=pre++ .nilsl::suf) (hv:V.rnL (dn [u]) (pre++ .hsl u 0 0::suf)=args')
 (hy:y.rn ([u][·]?)=y') (hout:rnR ([u][·]?) rows2=rows2) (hp:(⟨s.env,(u,⟨sz2,rows2⟩)::(u,⟨sz,[]⟩)::s.heap,u+1,s.n,s.lv⟩:St).put d y'=some s1) (h:AOps P ops r s1 K):
 AOps P ops (⟨d,.call ⟨.value (.func f),⟨args⟩,tys⟩,ty,pos,af,gu⟩::r) s K:=
 pQ hg hc.1 fun C w a hs=>by
  have hnx:C.nx=u:=hs.nx.trans hn;subst hnx;obtain ⟨h1,h2,h3⟩:=af8 hs.heap sz;have hs0:StRep (C.set C.nx ⟨none,sz,0,0⟩ (C.nx+1)) w a ⟨s.env,(C.nx,⟨sz,[]⟩)::s.heap,C.nx+1,s.n,s.lv⟩:=
   ⟨hs.defers,hs.size,rfl,fun j=>(hs.env j).mono h2,h1,hs.lv⟩
  have hL:Lent [C.nx] ((C.nx,(⟨sz,[]⟩:HB))::s.heap) [(0,⟨sz,[]⟩)]:=by
   refine⟨fun j hj=>?_,fun j hb' hj=>?_⟩
   .cases j with
    |zero=>cases hj
    |succ j=>simp
   .cases j with
    |zero=>
     simp only [hget,Nat.beq_refl,cond_true,Option.some.injEq]at hj;subst hj;exact ⟨C.nx,⟨sz,[]⟩,rfl,by simp [hget],rfl,rfl⟩
    |succ j=>cases hj
  have hd:distinct [C.nx]=true:=rfl;have hargs0:RepL (C.set C.nx ⟨none,sz,0,0⟩ (C.nx+1)) w (args.map a.eval) (pre++ .hsl C.nx 0 0::suf):=by
   have key:∀(pre:List V) (vs:List Value),RepL C w vs (pre++ .nilsl::suf)->RepL (C.set C.nx ⟨none,sz,0,0⟩ (C.nx+1)) w vs (pre++ .hsl C.nx 0 0::suf):=by
    intro pre;induction pre with
    |nil=>
     intro vs hh;cases hh with
     |cons h t=>exact .cons (sM sz h) (t.mono h2)
    |cons x r ih=>
     intro vs hh;cases hh with
     |cons h t=>exact .cons (h.mono h2) (ih _ t)
   have:=nM hs args;rw [ha]at this;exact key pre _ this
  have hargs:RepL ((C.set C.nx ⟨none,sz,0,0⟩ (C.nx+1)).lend [C.nx]) w (args.map a.eval) args':=by
   rw [<- hv];exact RepL.rn (tZ hs0.heap (by simp)) hargs0
  refine(hc.2 ((C.set C.nx ⟨none,sz,0,0⟩ (C.nx+1)).lend [C.nx]) w ⟨args.map a.eval⟩ rfl (au2 hs0.heap (by simp) hd hL) hargs).mono ?_;rintro e w' ⟨v,C2,x,hh2,rfl,e2,e3,e4,e5⟩;have E:=vT hs0.heap (by simp) e4;have hH:HomeOK [C.nx] ((C.nx,(⟨sz,[]⟩:HB))::s.heap) hh2 ((C.nx,⟨sz2,rows2⟩)::(C.nx,⟨sz,[]⟩)::s.heap):=fun x=>by
   refine⟨fun j hj=>?_,fun hj=>?_⟩
   .have hx:=cZ hj;have hj0:j=0:=by
     cases j with
     |zero=>rfl
     |succ j=>simp at hx
    subst hj0;simp at hx;subst hx;simp only [hget,Nat.beq_refl,cond_true,e5.2,Option.map_some,hout]
   .have hne:Nat.beq x C.nx=false:=by
     cases hb:Nat.beq x C.nx
     .rfl
     .simp [dn,hb]at hj
    simp only [hget,hne,cond_false]
  have hst:=as6 hs0.heap (by simp) hd hL e4 e2 hH;refine ⟨v,(C.set C.nx ⟨none,sz,0,0⟩ (C.nx+1)).home C2 [C.nx],s1,rfl,?_,h3.trans (as5 (by simp) e4),h⟩;refine W2 (C:=(C.set C.nx ⟨none,sz,0,0⟩ (C.nx+1)).home C2 [C.nx]) (w:=w') (s:=⟨s.env,(C.nx,⟨sz2,rows2⟩)::(C.nx,⟨sz,[]⟩)::s.heap,C.nx+1,s.n,s.lv⟩) ⟨hs0.defers,hs0.size,hs0.nx,fun i=>(hs0.env i).mono E,hst,hs0.lv⟩ ?_ hp;have:=Rep.rn (af6 hs0.heap hd hL e4 e2) e3;rw [e5.1,hy]at this;exact this
end
theorem a9 {a b:Nat}(h:Nat.ble a b=true):a<=b:=Nat.le_of_ble_eq_true h
end Go.Abs

namespace Go.Abs
section
variable {s:St} {n i:Nat} {α:Type} {r:List (Nat×V)} {f:Nat->Nat}
def okB (n:Nat):V->Bool
 |.hsl u _ _=>Nat.blt u n
 |.ptr u _ _ _=>Nat.blt u n
 |.mp u _=>Nat.blt u n
 |.agg _=>false
 |.tup _=>false
 |.psl _ _ _=>false
 |.pptr _ _ _ _ _=>false
 |_=>true
theorem okB_ok:∀{x:V},okB n x=true->Ok n x
 |.hsl u _ _,h=>Nat.le_of_ble_eq_true h
 |.ptr u _ _ _,h=>Nat.le_of_ble_eq_true h
 |.mp u _,h=>Nat.le_of_ble_eq_true h
 |.int _ _,_=>rfl
 |.bool _,_=>rfl
 |.str _,_=>rfl
 |.nilsl,_=>rfl
 |.nilm,_=>rfl
 |.nilp,_=>rfl
 |.fn _,_=>rfl
 |.junk,_=>rfl
theorem d8 {x:V}(h:(eget s.env i,okB n x)=(x,true))(t:EnvLe s n r):EnvLe s n ((i,x)::r):=
 ⟨⟨(Prod.mk.inj h).1,okB_ok (Prod.mk.inj h).2⟩,t⟩
theorem o7 (c:Cd α){l sz:Nat}{xs:List α}(h:(eget s.env i,cut2 l)=(.psl l sz (xs.map (c.enc l)),l))(t:EnvLe s n r):EnvLe s n ((i,.psl l sz (xs.map (c.enc l)))::r):=
 ⟨⟨(Prod.mk.inj h).1,c.ok_psl xs (Prod.mk.inj h).2⟩,t⟩
theorem ee_ag (c:Cd α){l:Nat}{x:α}(h:(eget s.env i,cut2 l)=(.agg (c.row l x),l))(t:EnvLe s n r):EnvLe s n ((i,.agg (c.row l x))::r):=
 ⟨⟨(Prod.mk.inj h).1,c.ok_agg x (Prod.mk.inj h).2⟩,t⟩
theorem j4 {c:Cd α}{u sz l:Nat}{xs:List α}{r:List (Nat×HB)}(h:(hget s.heap u,Nat.blt u n,cut2 l)=(some ⟨sz,xs.map (c.enc l)⟩,true,l))(t:HeapLe s n r):HeapLe s n ((u,⟨sz,xs.map (c.enc l)⟩)::r):=
 ⟨⟨(Prod.mk.inj h).1,Nat.le_of_ble_eq_true (Prod.mk.inj (Prod.mk.inj h).2).1,c.rows_ok xs (Prod.mk.inj (Prod.mk.inj h).2).2⟩,t⟩
theorem rowB_ok:∀{row:List V},(row.all (okB n))=true->RowOk n row
 | [],_=>trivial
 |x::r,h=>by
  rw [List.all_cons,Bool.and_eq_true]at h;exact ⟨okB_ok h.1,rowB_ok h.2⟩
theorem row_z {row:List V}(h:row.all (okB n)=true):∀ r∈ [row],RowOk n r:=m7 (rowB_ok h)
theorem A8 {u sz:Nat}{row:List V}{r:List (Nat×HB)}(h:(hget s.heap u,Nat.blt u n,row.all (okB n))=(some ⟨sz,[row]⟩,true,true))(t:HeapLe s n r):HeapLe s n ((u,⟨sz,[row]⟩)::r):=
 ⟨⟨(Prod.mk.inj h).1,Nat.le_of_ble_eq_true (Prod.mk.inj (Prod.mk.inj h).2).1,row_z (Prod.mk.inj (Prod.mk.inj h).2).2⟩,t⟩
theorem A5 (c:Cd α){u sz l:Nat}{x:α}{r:List (Nat×HB)}(h:(hget s.heap u,Nat.blt u n,cut2 l)=(some ⟨sz,[c.row l x]⟩,true,l))(t:HeapLe s n r):HeapLe s n ((u,⟨sz,[c.row l x]⟩)::r):=
 ⟨⟨(Prod.mk.inj h).1,Nat.le_of_ble_eq_true (Prod.mk.inj (Prod.mk.inj h).2).1,m7 (c.row_ok x (Prod.mk.inj (Prod.mk.inj h).2).2)⟩,t⟩
theorem wW {k1 k2 k3 k4:IntKind}{a b c d:Int}{t:List UInt8}{u1 u2 u3 n1 n2 n3 z1 z2 z3:Nat}{r1 r2 r3:List (List V)}(h1:hget s.heap u1=some ⟨z1,r1⟩)(l1:0+n1=r1.length)(h2:hget s.heap u2=some ⟨z2,r2⟩)(l2:0+n2=r2.length)(h3:hget s.heap u3=some ⟨z3,r3⟩)(l3:0+n3=r3.length):
 OneCs s [.int k1 a,.int k2 b,.hsl u1 0 n1,.int k3 c,.int k4 d,.str t,.hsl u2 0 n2,.hsl u3 0 n3]:=
 m0 (D6 rfl) (m0 (D6 rfl) (m0 (P8 h1 l1) (m0 (D6 rfl) (m0 (D6 rfl) (m0 (D6 rfl) (m0 (P8 h2 l2) (m0 (P8 h3 l3) Q4)))))))
theorem t9 (c:Cd α)(x:α)(h:f 0=0):V.rl f (.agg (c.row 0 x))=.agg (c.row 0 x):=c.rl_agg f x h
theorem ag_10 (c:Cd α)(x:α)(h:f 1=0):V.rl f (.agg (c.row 1 x))=.agg (c.row 0 x):=c.rl_agg f x h
theorem ag_11 (c:Cd α)(x:α)(h:f 1=1):V.rl f (.agg (c.row 1 x))=.agg (c.row 1 x):=c.rl_agg f x h
theorem I0 (c:Cd α)(xs:List α){sz:Nat}(h:f 0=0):V.rl f (.psl 0 sz (xs.map (c.enc 0)))=.psl 0 sz (xs.map (c.enc 0)):=c.rl_psl f xs h
theorem ps_10 (c:Cd α)(xs:List α){sz:Nat}(h:f 1=0):V.rl f (.psl 1 sz (xs.map (c.enc 1)))=.psl 0 sz (xs.map (c.enc 0)):=c.rl_psl f xs h
theorem ai2 (c:Cd α)(xs:List α){sz:Nat}(h:f 1=1):V.rl f (.psl 1 sz (xs.map (c.enc 1)))=.psl 1 sz (xs.map (c.enc 1)):=c.rl_psl f xs h
end
end Go.Abs

namespace Go.Abs
open Region
def ins (i:Nat):List Nat->List Nat
 | []=>[i]
 |j::r=>bif Nat.ble i j then i::j::r else j::ins i r
def bits (n:Nat):List Nat->Array Bool
 | []=>Array.replicate n false
 |i::l=>(bits n l).setIfInBounds i true
theorem bits_comm (a:Array Bool)(i j:Nat):(a.setIfInBounds i true).setIfInBounds j true=(a.setIfInBounds j true).setIfInBounds i true:=by
 by_cases h:i=j
 .rw [h]
 .exact Array.setIfInBounds_comm _ _ h
theorem bits_ins (n i:Nat):∀ l:List Nat,bits n (ins i l)=(bits n l).setIfInBounds i true
 | []=>rfl
 |j::r=>by
  unfold ins;cases Nat.ble i j
  .show (bits n (ins i r)).setIfInBounds j true=((bits n r).setIfInBounds j true).setIfInBounds i true;rw [bits_ins n i r,bits_comm]
  .rfl
section
variable {P:Program} {ops:List Oper} {m:Nat} {J s:St} {f:Nat}
def APl (P:Program)(ops:List Oper)(m:Nat)(J:St)(f:Nat)(l:List Nat)(s:St):Prop:=APerm P ops m J f (bits ops.length l) s
def AAl (P:Program)(ops:List Oper)(m:Nat)(J:St)(f:Nat)(l:List Nat)(s:St):List Nat->Prop
 | []=>True
 |i::r=>(∃ o,ops[i]? =some o/\AOps P ⟨ops⟩ [o] s (APl P ops m J f (ins i l)))/\AAl P ops m J f l s r
theorem aal_all {l:List Nat}:∀{is:List Nat},AAl P ops m J f l s is->AAllP P ops m J f (bits ops.length l) s is
 | [],_=>trivial
 |i::r,h=>by
  obtain⟨⟨o,h1,h2⟩,h3⟩:=h;refine ⟨⟨o,h1,?_⟩,aal_all h3⟩;have e:APl P ops m J f (ins i l)=APerm P ops m J f ((bits ops.length l).setIfInBounds i true):=by
   funext s;unfold APl;rw [bits_ins]
  rw [e]at h2;exact h2
theorem C7 (l:List Nat){A:Array Bool}(h:bits ops.length l=A)(hp:APl P ops m J f l s):APerm P ops m J f A s:=by rw [<- h];exact hp
theorem l6 (l is:List Nat)(hr:ready .any ⟨ops⟩ (bits ops.length l)=is)(hm:(!is.isEmpty&&is.all fun i=>Nat.blt i m)=true)(h:AAl P ops m J f l s is):APl P ops m J (f+1) l s:=aperm_step is hr hm (aal_all h)
theorem n9 {l:List Nat}:AAl P ops m J f l s []:=trivial
theorem f9 {l:List Nat}{i:Nat}{o:Oper}{r:List Nat}(ho:ops[i]? =some o)(h:AOps P ⟨ops⟩ [o] s (APl P ops m J f (ins i l)))(hr:AAl P ops m J f l s r):AAl P ops m J f l s (i::r):=⟨⟨o,ho,h⟩,hr⟩
theorem dP {l:List Nat}(hl:(List.range m).all (fun i=>(bits ops.length l).getD i false)=true)(h:Le s J):APl P ops m J 0 l s:=⟨hl,h⟩
end
end Go.Abs

namespace Go.Abs
def alg:List (Nat×Nat)->Nat->Option Nat
 | [],_=>none
 |(a,b)::r,u=>bif Nat.beq u a then some b else alg r u
def swp (al:List (Nat×Nat)):List (Nat×Nat):=al.map fun p=>(p.2,p.1)
theorem aq8:∀{al:List (Nat×Nat)} {u j:Nat},alg al u=some j->(u,j)∈al
 |(a,b)::r,u,j,h=>by
  simp only [alg,Bool.cond_eq_ite]at h;split at h
  .rename_i e;rw [Nat.beq_eq]at e;simp only [Option.some.injEq]at h;subst e;subst h;simp
  .exact List.mem_cons_of_mem _ (aq8 h)
def oeq:Option Nat->Nat->Bool
 |some a,b=>Nat.beq a b
 |none,_=>false
theorem oeq_spec {o:Option Nat}{b:Nat}(h:oeq o b=true):o=some b:=by
 cases o with
 |none=>simp [oeq]at h
 |some a=>simp [oeq]at h;rw [h]
def alOK (al:List (Nat×Nat)):Bool:=al.all fun p=>oeq (alg (swp al) p.2) p.1&&oeq (alg al p.1) p.2&&(Nat.ble 12 p.2||Nat.beq p.1 p.2)
structure AlOK (al:List (Nat×Nat)):Prop where
 gi:∀ u j,alg al u=some j->alg (swp al) j=some u
 ig:∀ u j,alg (swp al) j=some u->alg al u=some j
 low:∀ u j,j<12->alg (swp al) j=some u->u=j
theorem alOK_spec {al:List (Nat×Nat)}(h:alOK al=true):AlOK al:=by
 have key:∀ u j,(u,j)∈al->alg (swp al) j=some u/\alg al u=some j/\(12<=j\/u=j):=fun u j hm=>by
  have h1:=List.all_eq_true.1 h (u,j) hm;simp only [Bool.and_eq_true,Bool.or_eq_true,Nat.ble_eq,Nat.beq_eq]at h1;exact ⟨oeq_spec h1.1.1,oeq_spec h1.1.2,h1.2⟩
 have back:∀ u j,alg (swp al) j=some u->(u,j)∈al:=fun u j h=>by
  have:=aq8 h;unfold swp at this;obtain ⟨p,hp,he⟩:=List.mem_map.1 this;simp only [Prod.mk.injEq]at he;obtain ⟨rfl,rfl⟩:=he;exact hp
 refine⟨fun u j h=>(key u j (aq8 h)).1,fun u j h=>(key u j (back u j h)).2.1,fun u j hj h=>?_⟩;rcases (key u j (back u j h)).2.2 with h|h
 .omega
 .exact h
def EnvRn (s:St)(g:Nat->Option Nat):List (Nat×V)->Prop
 | []=>True
 |p::r=>(eget s.env p.1).rn g=p.2/\EnvRn s g r
def HeapRn (s:St)(al:List (Nat×Nat))(n:Nat):List (Nat×HB)->Prop
 | []=>True
 |p::r=>(p.1<n/\∃ u rows,alg (swp al) p.1=some u/\hget s.heap u=some ⟨p.2.sz,rows⟩/\rnR (alg al) rows=p.2.rows)/\HeapRn s al n r
theorem envRn_get {s:St}{g:Nat->Option Nat}:∀{l:List (Nat×V)},EnvRn s g l->∀ i,eget l i=.junk\/(eget s.env i).rn g=eget l i
 | [],_,_=>.inl rfl
 |(j,x)::r,h,i=>by
  simp only [eget,Bool.cond_eq_ite];split
  .rename_i e;rw [Nat.beq_eq]at e;subst e;exact .inr h.1
  .exact envRn_get h.2 i
theorem rZ {s:St}{al:List (Nat×Nat)}{n:Nat}:∀{l:List (Nat×HB)},HeapRn s al n l->∀ j hb,hget l j=some hb->j<n/\∃ u rows,alg (swp al) j=some u/\hget s.heap u=some ⟨hb.sz,rows⟩/\rnR (alg al) rows=hb.rows
 | [],_,_,_,h=>by cases h
 |(k,x)::r,h,j,hb,hj=>by
  simp only [hget,Bool.cond_eq_ite]at hj;split at hj
  .rename_i e;rw [Nat.beq_eq]at e;subst e;simp only [Option.some.injEq]at hj;subst hj;exact h.1
  .exact rZ h.2 j hb hj
def Ctx.ren (C:Ctx)(al:List (Nat×Nat))(h:List (Nat×HB))(n:Nat):Ctx:=
 {reg:=fun l b=>l<=1/\C.reg l b,lv:=fun l=>l<=1,loc:=fun j=>if(hget h j).isSome then(alg (swp al) j).bind C.loc else none,nx:=n,
  sub:=fun j=>if(hget h j).isSome then(match alg (swp al) j with |some u=>C.sub u|none=>[])else [] }
section
variable {s:St} {al:List (Nat×Nat)} {env':List (Nat×V)} {h':List (Nat×HB)} {nx':Nat}
theorem oE {C:Ctx}{n j:Nat}{L:Loc}(h:(C.ren al h' n).loc j=some L):∃ u,alg (swp al) j=some u/\C.loc u=some L/\(hget h' j).isSome=true:=by
 simp only [Ctx.ren]at h;split at h
 .rename_i hi;cases hu:alg (swp al) j with
  |none=>simp [hu]at h
  |some u=>simp [hu]at h;exact⟨u,rfl,h,hi⟩
 .cases h
theorem yS {C:Ctx}{n j b:Nat}(h:b∈(C.ren al h' n).sub j):∃ u,alg (swp al) j=some u/\b∈C.sub u:=by
 simp only [Ctx.ren]at h;split at h
 .split at h
  .rename_i u hu;exact⟨u,hu,h⟩
  .cases h
 .cases h
theorem le_rn {n':Nat}(al:List (Nat×Nat))(hal:alOK al=true)(hnx:(al.all fun p=>Nat.blt p.2 nx')=true)(he:EnvRn s (alg al) env')(hh:HeapRn s al nx' h')(hn:Nat.blt 11 nx'=true)(hs':s.n=n'):Le s ⟨env',h',nx',n',[]⟩:=fun C w a hs=>by
 subst hs';obtain ⟨gi,ig,low⟩:=alOK_spec hal;have H:=hs.heap;have hn':11<nx':=by have:=Nat.le_of_ble_eq_true hn;omega
 have R:Rn (alg al) C (C.ren al h' nx') w w:=by
  refine⟨⟨fun l _=>?_,fun l _ h=>?_,fun l b _ h hb=>⟨?_,rfl⟩⟩,fun u j hj _=>⟨?_,fun L' hL'=>⟨L',?_,.inl rfl⟩⟩⟩
  .rcases bQ l with ⟨h,e⟩|⟨h,e⟩<;>rw [e]<;>show _<nx'<;>omega
  .have h1:cut2 l<=1:=h;rcases bQ l with ⟨h1,e⟩|⟨h1,e⟩
   .exact zN H h1
   .omega
  .have h1:cut2 l<=1:=h;rcases bQ l with ⟨h1,e⟩|⟨h1,e⟩
   .rw [e];exact⟨h1,hb⟩
   .omega
  .have:=List.all_eq_true.1 hnx (u,j) (aq8 hj);exact Nat.le_of_ble_eq_true this
  .obtain ⟨u',h1,h2,_⟩:=oE hL';rw [gi u j hj]at h1;rw [Option.some.inj h1];exact h2
 have hpi:∀{j j' u},alg (swp al) j=some u->alg (swp al) j'=some u->j=j':=fun{j j' u} h1 h2=>by
  have e1:=ig _ _ h1;have e2:=ig _ _ h2;rw [e1]at e2;exact Option.some.inj e2
 refine⟨C.ren al h' nx',⟨hs.defers,hs.size,rfl,fun i=>?_,⟨fun j hj=>?_,fun j hb' hj=>?_,fun j L hj=>?_,fun j j' L L' b h1 h2 h3 h4=>?_,fun j L b l h1 h2 h3 h4=>?_,fun l b h1 h2=>?_,fun l h=>?_,fun l l' b h1 h2 h3 h4=>?_,⟨Nat.zero_le _,Nat.le_refl _,by show ¬ 2<=1;omega⟩,hn',
  ⟨fun j hb' L hj hl=>?_,fun j hl=>?_,fun j=>?_,fun j b hb=>?_,fun j b j' L hb h1 h2=>?_,fun j j' b hb hb'=>?_,fun j b l hb h1 h2=>?_⟩,fun b hb=>⟨⟨Nat.zero_le _,(H.tab b hb).1⟩,(H.tab b hb).2⟩⟩,fun l hl=>by cases hl⟩,?_⟩
 .rcases envRn_get he i with h|h
  .rw [h];exact .junk _
  .rw [<- h];exact Rep.rn R (hs.env i)
 .simp only [Ctx.ren];rw [if_neg (by show ¬ (hget h' j).isSome=true;rw [hj];simp)]
 .obtain ⟨_,u,rows,g1,g2,g3⟩:=rZ hh j hb' hj;obtain ⟨L,e1,e2,e3,e4⟩:=H.ent u _ g2;have hj':(hget h' j).isSome=true:=by rw [hj];rfl
  refine⟨L,by simp [Ctx.ren,hj',g1,e1],e2,by rw [e3,<- g3];simp [rnR],?_⟩;rw [<- g3];exact av6 R (fun _ _=>rfl) e4
 .obtain ⟨u,h1,h2,h3⟩:=oE hj;obtain ⟨hb,hbe⟩:=Option.isSome_iff_exists.1 h3;exact (rZ hh j hb hbe).1
 .obtain ⟨u,g1,g2,_⟩:=oE h1;obtain ⟨u',g3,g4,_⟩:=oE h2;have:=H.inj u u' L L' b g2 g4 h3 h4;subst this;exact hpi g1 g3
 .obtain ⟨u,g1,g2,_⟩:=oE h1;exact H.own u L b l g2 h2 (zN H h3) h4.2
 .exact H.regs l b (zN H h1) h2.2
 .have h':l<=1:=h;show l<nx';omega
 .exact H.rdis l l' b (zN H h3.1) (zN H h4.1) h3.2 h4.2
 .obtain ⟨u,g1,g2,g3⟩:=oE hl;obtain ⟨_,u',rows,k1,k2,k3⟩:=rZ hh j hb' hj;rw [g1]at k1;simp only [Option.some.injEq]at k1;subst k1;have:(C.ren al h' nx').sub j=C.sub u:=by simp only [Ctx.ren,g3,if_true,g1]
  rw [this,<- k3];exact (H.sub.dp u _ L k2 g2).rn _
 .simp only [Ctx.ren]at hl |-;split at hl
  .rename_i hi;rw [if_pos hi];cases hu:alg (swp al) j with
   |none=>rfl
   |some u=>rw [hu]at hl;exact H.sub.s0 u hl
  .rename_i hi;rw [if_neg hi]
 .simp only [Ctx.ren];split
  .split
   .exact H.sub.nd _
   .exact .nil
  .exact .nil
 .obtain ⟨u,_,h2⟩:=yS hb;exact H.sub.lt u b h2
 .obtain ⟨u,_,k2⟩:=yS hb;obtain ⟨u',_,k4,_⟩:=oE h1;exact H.sub.root u b u' L k2 k4 h2
 .obtain ⟨u,k1,k2⟩:=yS hb;obtain ⟨u',k3,k4⟩:=yS hb';have:=H.sub.dis u u' b k2 k4;subst this;exact hpi k1 k3
 .obtain ⟨u,_,k2⟩:=yS hb;exact H.sub.reg u b l k2 (zN H h1) h2.2
 .refine ⟨Nat.le_refl _,fun _ _ _=>rfl,fun b hb=>?_,fun b hb=>hb.2,fun b hb=>.inl hb.2,rfl,rfl,fun j hj L' h=>?_⟩
  .rcases hb with ⟨j,L,h1,h2⟩|⟨l,h1,h2,_⟩|⟨j,h1⟩
   .obtain ⟨u,_,g2,_⟩:=oE h1;exact .inl (.inl ⟨u,L,g2,h2⟩)
   .have:l<=1:=h2;omega
   .obtain ⟨u,_,g2⟩:=yS h1;exact .inl (.inr (.inr ⟨u,g2⟩))
  .obtain ⟨u,g1,g2,_⟩:=oE h;have:=low u j hj g1;subst this;exact ⟨L',g2,.inl rfl⟩
theorem ae9 {g:Nat->Option Nat}:EnvRn s g []:=trivial
theorem M5 {g:Nat->Option Nat}{i:Nat}{x y:V}{l:List (Nat×V)}(h:eget s.env i=y)(hr:y.rn g=x)(t:EnvRn s g l):EnvRn s g ((i,x)::l):=⟨by rw [<- hr,<- h],t⟩
theorem af7 {n:Nat}:HeapRn s al n []:=trivial
theorem A1 {n j u sz:Nat}{rows rows':List (List V)}{l:List (Nat×HB)}(hu:alg (swp al) j=some u)(h:hget s.heap u=some ⟨sz,rows⟩)(hj:Nat.blt j n=true)(hr:rnR (alg al) rows=rows')(t:HeapRn s al n l):HeapRn s al n ((j,⟨sz,rows'⟩)::l):=
 ⟨⟨Nat.le_of_ble_eq_true hj,u,rows,hu,h,hr⟩,t⟩
theorem W3 {g:Nat->Option Nat}{row row':List V}(h:V.rnL g row=row'):rnR g [row]=[row']:=by simp [rnR,h]
theorem ai6 {g:Nat->Option Nat}{xs ys:List V}(h:V.rnL g xs=ys):V.rn g (.agg xs)=.agg ys:=by simp only [V.rn,h]
theorem D3 {g:Nat->Option Nat}{u j i n:Nat}(h:g u=some j):V.rn g (.hsl u i n)=.hsl j i n:=by simp [V.rn,h]
theorem rn_mp {g:Nat->Option Nat}{u j k:Nat}(h:g u=some j):V.rn g (.mp u k)=.mp j k:=by simp [V.rn,h]
theorem iR {g:Nat->Option Nat}{u j n i o:Nat}(h:g u=some j):V.rn g (.ptr u n i o)=.ptr j n i o:=by simp [V.rn,h]
end
end Go.Abs

namespace Go.Abs
section
variable {P:Program} {T:List TI} {s:St}
theorem src_hslX {u sz:Nat}{row:List V}{y:Operand}(hy:ev s y=.hsl u 0 1)(hu:hget s.heap u=some ⟨sz,[row]⟩)(hone:OneCs s row):∀ C w a,StRep C w a s->∃ news,Src P C w sz [row] (a.eval y) news:=fun C w a hs=>by
 have hv:=hs.ev y;rw [hy]at hv;generalize a.eval y=v at hv;obtain ⟨L,h1,h2,h3,h4,h5⟩:=aO hs.heap hv hu (by rfl);unfold HSL at h5;cases hb:L.blk with
 |none=>
  unfold Blk at h4;rw [hb]at h4;exact absurd h4.1 (by simp)
 |some b=>
  rw [hb]at h5;simp only at h5;obtain ⟨cs,el,fz,g1,g2,g3,g4,vals,g5⟩:=fQ hb h5.1 h4;rw [h5.2,Nat.zero_mul];have h2':L.sz=sz:=h2;obtain ⟨k1,k2,k3⟩:=g5 0 row rfl;rw [h2']at k1;have hlen:row.length=sz:=by rw [<- k3.length,k1]
  refine⟨vals 0,fun w'=>by simp [Builtin.lenOf],fun w' hw=>?_,by simp [k1],⟨vals,fun i r hi=>?_⟩,fun u hu=>au9 hs k3 hone u hu,by unfold flatR;simp [ai0 hone]⟩
  .refine run_firstCells_some w' sz 1 ⟨b,0,none⟩ 1 _ (vals 0) (by simp [k1]) fun k v hk=>?_;rw [cG,Nat.zero_add];have:=k2 k v hk;simp only [Nat.zero_mul,Nat.zero_add]at this;exact hw.cell this
  .cases i with
   |succ i=>simp at hi
   |zero=>
    simp at hi;subst hi;exact ⟨k1,fun j v hj=>by simpa using hj,k3⟩
section
variable {ops:Array Oper} {d:Option Nat} {ty:Nat} {pos:String} {af:Array Edge} {gu:Option (Nat×Bool)} {r:List Oper} {K:St->Prop} {s1:St}
theorem aK {α:Type}(c:Cd α){t tx e u uy l:Nat}{kd:TK}{sz bts:Nat}{z0:List V}{ag:Bool}{x y:Operand}{xs:List α}{row:List V}(hb:(xs.length+1) * bts<=140737488355328)(hbts:Nat.beq bts 0=false)(hT:TabOK P T)(hg:gd ops.toList s gu=some true)(ht:elemI T t=some (e,⟨kd,sz,bts,z0,ag⟩))(htx:notIntT T tx=true)(hz:Nat.beq z0.length sz=true)(hz0:Nat.beq sz 0=false)
 (hx:ev s x=.hsl u 0 xs.length) (hu:hget s.heap u=some ⟨sz,xs.map (c.enc l)⟩) (hy:ev s y=.hsl uy 0 1) (huy:hget s.heap uy=some ⟨sz,[row]⟩) (hone:OneCs s row)
 (hp:(s.wr u ⟨sz,xs.map (c.enc l)++[row]⟩).put d (.hsl u 0 (xs.length+1))=some s1) (h:AOps P ops r s1 K):
 AOps P ops (⟨d,.call ⟨.builtin .append,⟨[x,y]⟩,⟨[t,tx]⟩⟩,ty,pos,af,gu⟩::r) s K:=by
 have hb1:1<=bts:=by rcases Nat.eq_zero_or_pos bts with e|e;(simp [e]at hbts);exact e
 have hle:xs.length+1<=(xs.length+1) * bts:=Nat.le_mul_of_pos_right _ hb1;refine s_append hT hg ht htx ⟨Nat.eq_of_beq_eq_true hz,fun e=>by simp [e]at hz0⟩ hx hu (by simp) (src_hslX hy huy hone) ⟨by simpa using hb,by simp;omega⟩ ?_ h;rw [<- hp];simp
end
theorem at_app {rows:List (List V)}{row:List V}{n:Nat}(h:rows.length=n):(rows++[row])[n]? =some row:=by subst h;simp
theorem set_app {rows:List (List V)}{row row':List V}{n:Nat}(h:rows.length=n):(rows++[row]).set n row'=rows++[row']:=by subst h;simp
theorem kU {α:Type}(c:Cd α){l:Nat}(xs:List α)(x:α):xs.map (c.enc l)++[c.row l x]=(xs++[x]).map (c.enc l):=by simp [c.eq]
theorem bZ (u v n m:Nat){usz sz:Nat}{rows rs:List (List V)}(pre suf:List V)(hu:hget s.heap u=some ⟨usz,rows++[pre++ .hsl v 0 n::suf]⟩)(hm:rows.length=m)(hz:Nat.beq usz 0=false)(hv:hget s.heap v=some ⟨sz,rs⟩)(hsz:Nat.beq sz 0=false)(huv:Nat.beq u v=false)(hn:rs.length=n)(hdp:∀ row∈rs,row.all dpV=true){s':St}(hs':s.closed u v usz (rows++[pre++ .psl 2 sz rs::suf])=s'):Le s s':=
 aC u v m n pre suf hu hz hv hsz huv hn (at_app hm) hdp (set_app hm) hs'
end
inductive PartsX (s:St):List (Nat×Operand)->List (Nat×List V)->Prop
 |nil:PartsX s [] []
 |gen {i:Nat} {x:Operand} {cs:List V} {r:List (Nat×Operand)} {ps:List (Nat×List V)} (h:cellsV s (ev s x)=some cs) (t:PartsX s r ps):PartsX s ((i,x)::r) ((i,cs)::ps)
 |one {i:Nat} {x:Operand} {y:V} {r:List (Nat×Operand)} {ps:List (Nat×List V)} (h:ev s x=y) (ho:OneC s y) (t:PartsX s r ps):PartsX s ((i,x)::r) ((i,[y])::ps)
section
variable {P:Program} {T:List TI} {s:St}
theorem ap2 {C:Ctx}{w:World}{a:Act}(hs:StRep C w a s){place:Nat->Option (Nat×Nat)}:∀{parts:List (Nat×Operand)} {ps:List (Nat×List V)} {cells:Array Value} {zs cs:List V},PartsX s parts ps->RepL C w cells.toList zs->vfill place zs ps=some cs->
 ∃ cells',Instr.fill place cells (parts.map fun p=>(p.1,a.eval p.2))=some cells'/\RepL C w cells'.toList cs
 | [],ps,cells,zs,cs,hp,hz,hf=>by
  cases hp;simp only [vfill,Option.some.injEq]at hf;subst hf;exact ⟨cells,rfl,hz⟩
 |(i,x)::r,ps,cells,zs,cs,hp,hz,hf=>by
  obtain⟨xs,ps',rfl,h2,hx⟩:∃ xs ps',ps=(i,xs)::ps'/\PartsX s r ps'/\RepL C w (a.eval x).cells.toList xs:=by
   cases hp with
   |gen h t=>exact⟨_,_,rfl,t,gY hs (hs.ev x) h⟩
   |@one _ _ y _ _ h ho t=>
    refine⟨_,_,rfl,t,?_⟩;have hv:=hs.ev x;rw [h]at hv;rw [(ho.1 C w a hs _ hv).1];exact .cons hv .nil
  simp only [vfill]at hf;split at hf
  .rename_i off size hpl;rw [Bool.cond_eq_ite]at hf;split at hf
   .rename_i hc;rw [Nat.beq_eq]at hc;split at hf;rotate_left
    .simp at hf
    rename_i cells' hput;obtain ⟨hput1,hput2⟩:=eS hput;subst hput1;have hc:=And.intro hc hput2;have hxl:=hx.length;have hzl:=hz.length;simp only [Array.length_toList]at hxl hzl;have hb:off+0+(a.eval x).cells.toList.length<=cells.size:=by simp;omega
    have hset:=vP (a.eval x).cells.toList 0 off cells hb;have hnew:RepL C w ((a.eval x).cells.toList.zipIdx.foldl (fun a (p:Value×Nat)=>a.setIfInBounds (off+p.2) p.1) cells).toList (zs.take off++xs++zs.drop (off+xs.length)):=by
     rw [hset];have hcl:(a.eval x).cells.toList.length=xs.length:=by simpa using hxl
     rw [Nat.add_zero,hcl];exact ((hz.take off).append hx).append (hz.drop _)
    obtain⟨cells',g1,g2⟩:=ap2 hs (parts:=r) h2 hnew hf;refine ⟨cells',?_,g2⟩;simp only [List.map_cons,Instr.fill,hpl];rw [if_neg (by simp;omega)];rw [<- g1];congr 1;rw [<- Array.foldl_toList,Array.toList_zipIdx]
   .simp at hf
  .simp at hf
theorem mF {t:Nat}{parts:List (Nat×Operand)}{ps:List (Nat×List V)}{fs:List (Nat×Nat)}{size bytes:Nat}{z cs:List V}{ag:Bool}(hT:TabOK P T)(hok:fieldsOk T t=true)(ht:T[t]? =some ⟨.struct fs,size,bytes,z,ag⟩)(hz:z.isEmpty=false)(hps:PartsX s parts ps)(hcs:vfill (fieldPl T fs) z ps=some cs):OpVal P s (.build t ⟨parts⟩) (.agg cs):=fun C w a hs d ty pos af gu=>by
 obtain⟨fields,hu,hmap⟩:=hT.struct ht rfl;obtain ⟨zv,hz1,hz2⟩:=hT.zero ht (by intro e;simp at e;simp [e]at hz);have hok':fs.all (fun p=>(T[p.2]?).isSome)=true:=by simpa [fieldsOk,ht]using hok
 have hrep:=sL C w zv.cells.toList;rw [hz2]at hrep;obtain ⟨places,_,hpl⟩:=oC hT w fields fs hmap hok';obtain ⟨cells',g1,g2⟩:=ap2 hs (place:=(places[·]?)) hps hrep (by
  have:(fun i=>places[i]?)=fieldPl T fs:=funext hpl;rw [this];exact hcs)
 refine⟨.agg cells',fun w' _=>?_,.agg (by simpa using g2)⟩;obtain ⟨places',hp1',hpl'⟩:=oC hT w' fields fs hmap hok';have heq:places'=places:=Array.ext_getElem? fun i=>by rw [hpl',hpl]
 subst heq;have g1':Instr.fill (fun i=>places'[i]?) zv.cells (parts.map fun p=>(p.1,a.eval p.2))=some cells':=g1;simp only [execOp,Instr.build,Sem.run_bind,hz1,Result.andThen_ok,run_underlying hu,hp1'];simp [g1']
end
theorem upJa (j:Nat)(r:List Nat)(n:Nat):upJ (j::r) n j=some n:=by simp [upJ,dn]
theorem beq_ne {a b:Nat}(h:a≠b):Nat.beq a b=false:=by
 cases e:Nat.beq a b with
 |false=>rfl
 |true=>exact absurd (Nat.eq_of_beq_eq_true e) h
theorem ao9 {j:Nat}{r:List Nat}(hd:distinct (j::r)=true){k:Nat}(hk:k∈r):Nat.beq k j=false:=by
 simp only [distinct,Bool.and_eq_true,Bool.not_eq_true']at hd;refine beq_ne fun e=>?_;subst e;obtain ⟨i,hi⟩:=List.getElem?_of_mem hk;exact gT hd.1 i hi
theorem dst_tl {j:Nat}{r:List Nat}(hd:distinct (j::r)=true):distinct r=true:=by
 simp only [distinct,Bool.and_eq_true]at hd;exact hd.2
theorem upJb {j k:Nat}{r:List Nat}(hd:distinct (j::k::r)=true)(n:Nat):upJ (j::k::r) n k=some (n+1):=by
 have h1:=ao9 hd (k:=k) (by simp);simp [upJ,dn,h1]
theorem upJc {j k l:Nat}{r:List Nat}(hd:distinct (j::k::l::r)=true)(n:Nat):upJ (j::k::l::r) n l=some (n+2):=by
 have h1:=ao9 hd (k:=l) (by simp);have h2:=ao9 (dst_tl hd) (k:=l) (by simp);simp [upJ,dn,h1,h2]
end Go.Abs

namespace Go.Abs
structure PendX where
 d:Nat
 hbs:List HB
 y:Nat->V
def inR (R:List (Loc×List Nat))(b:Nat):Prop:=∃ q∈R,InP q b
structure XOK (C:Ctx) (w:World) (v:Value) (p:PendX) (R:List (Loc×List Nat)):Prop where
 len:R.length=p.hbs.length
 priv:∀(i:Nat) q hb,R[i]? =some q->p.hbs[i]? =some hb->PrivS C w q.1 q.2 hb.rows/\q.1.sz=hb.sz
 dis:Disj R
 val:∀ C1 w1 n,Ext C C1 w w1->n+R.length<=C1.nx->(∀ (i:Nat) q,R[i]? =some q->C1.loc (n+i)=some q.1)->Rep C1 w1 v (p.y n)
theorem untr_mono {C C':Ctx}{w w':World}(hz:C.lv 0/\C.lv 1)(F:Fr C C' w w'){b:Nat}(hl:b<w.heap.size)(hu:Untr C b):Untr C' b:=by
 have ho:¬ Own C' b:=fun ho=>by
  rcases F.own b ho with h|h
  .exact hu.1 h
  .omega
 refine⟨ho,fun l hlv hr=>?_⟩;rcases Nat.lt_or_ge l 2 with h|h
 .have:l=0\/l=1:=by omega
  rcases this with rfl|rfl
  .exact hu.2 0 hz.1 (F.r0 b hr)
  .rcases F.r1 b hr with h|h|h
   .exact hu.2 1 hz.2 h
   .exact hu.1 h
   .omega
 .exact ho (.inr (.inl ⟨l,h,hlv,hr⟩))
theorem PrivS.lt {C:Ctx}{w:World}{L:Loc}{S:List Nat}{rows:List (List V)}(h:PrivS C w L S rows){b:Nat}(hb:InP (L,S) b):b<w.heap.size:=by
 rcases hb with hb|hb
 .exact jY h.blk hb
 .exact (h.low b hb).2.2
theorem PrivS.untr {C:Ctx}{w:World}{L:Loc}{S:List Nat}{rows:List (List V)}(h:PrivS C w L S rows){b:Nat}(hb:InP (L,S) b):Untr C b:=by
 rcases hb with hb|hb
 .exact h.root b hb
 .exact (h.low b hb).1
theorem PrivS.mono {C C':Ctx}{w w':World}{L:Loc}{S:List Nat}{rows:List (List V)}(hz:C.lv 0/\C.lv 1)(E:Ext C C' w w')(F:Fr C C' w w')(h:PrivS C w L S rows):PrivS C' w' L S rows:=by
 have kp:∀ b,InP (L,S) b->w'.heap[b]? =w.heap[b]? :=fun b hb=>F.keep b (h.lt hb) (h.untr hb).1;exact ⟨h.blk.mono E (fun b hb=>kp b (.inl hb)),h.n,fun b hb=>untr_mono hz F (h.lt (.inl hb)) (h.root b hb),h.deep.mono (fun b hb=>kp b (.inl hb)) (fun b hb=>kp b (.inr hb)),h.nd,
  fun b hb=>⟨untr_mono hz F (h.lt (.inr hb)) (h.low b hb).1,(h.low b hb).2.1,Nat.lt_of_lt_of_le (h.low b hb).2.2 F.size⟩⟩
theorem XOK.mono {C C':Ctx}{w w':World}{v:Value}{p:PendX}{R:List (Loc×List Nat)}(hz:C.lv 0/\C.lv 1)(E:Ext C C' w w')(F:Fr C C' w w')(h:XOK C w v p R):XOK C' w' v p R:=
 ⟨h.len,fun i q hb hq hh=>⟨(h.priv i q hb hq hh).1.mono hz E F,(h.priv i q hb hq hh).2⟩,h.dis,fun C1 w1 n e1 hn hl=>h.val C1 w1 n (E.trans e1) hn hl⟩
theorem XOK.each {C:Ctx}{w:World}{v:Value}{p:PendX}{R:List (Loc×List Nat)}(h:XOK C w v p R){b:Nat}(hb:inR R b):b<w.heap.size/\Untr C b:=by
 obtain⟨q,hq,hi⟩:=hb;obtain ⟨i,hi'⟩:=List.getElem?_of_mem hq;have hil:=(List.getElem?_eq_some_iff.1 hi').1;have:=(h.priv i q _ hi' (List.getElem?_eq_getElem (by rw [<- h.len];exact hil))).1;exact ⟨this.lt hi,this.untr hi⟩
def St.adoptX:St->PendX->St
 |⟨env,heap,nx,n,lv⟩,⟨d,hbs,y⟩=>⟨(d,y nx)::env,heapL nx hbs heap,nx+hbs.length,n,lv⟩
def St.adoptsX:St->List PendX->St
 |s,[]=>s
 |s,p::r=>(s.adoptX p).adoptsX r
def ApartX:List (List (Loc×List Nat))->Prop
 | []=>True
 |R::r=>(∀ M∈r,∀ b,inR R b->¬ inR M b)/\ApartX r
theorem ac8 {w:World}{a:Act}:∀(ps:List PendX) (Rs:List (List (Loc×List Nat))) {C:Ctx} {s:St},StRep C w a s->ps.length=Rs.length->(∀ (i:Nat) p R,ps[i]? =some p->Rs[i]? =some R->XOK C w (a.tmps.getD p.d undef) p R)->ApartX Rs->
 ∃ C',StRep C' w a (s.adoptsX ps)/\C'.reg=C.reg/\C'.lv=C.lv/\(∀ u,u<12->C'.loc u=C.loc u)/\(∀ b,Own C' b->Own C b\/∃ R∈Rs,inR R b)
 | [],Rs,C,s,hs,_,_,_=>⟨C,hs,rfl,rfl,fun _ _=>rfl,fun b h=>.inl h⟩
 |p::ps,[],C,s,hs,hl,_,_=>by simp at hl
 |p::ps,R::Rs,C,s,hs,hl,hp,hap=>by
  have X:=hp 0 p R rfl rfl;obtain ⟨a1,a2,a3,a4,a5,a6,a7,a8⟩:=sB R p.hbs hs.heap X.len X.priv X.dis;have hnx:C.nx=s.nx:=hs.nx;have hs1:StRep (adoptL C R) w a (s.adoptX p):=by
   have hv:=X.val (adoptL C R) w C.nx a2 (by rw [a3];exact Nat.le_refl _) a4;obtain ⟨d,hbs,y⟩:=p;cases s with
   |mk env heap nx n lv=>
    dsimp only at hnx;subst hnx;refine ⟨hs.defers,hs.size,by rw [a3,X.len];rfl,fun j=>?_,a1,by rw [a7];exact hs.lv⟩;simp only [St.adoptX,eget];rw [Bool.cond_eq_ite];split
    .rename_i hj;rw [Nat.beq_eq]at hj;subst hj;exact hv
    .exact (hs.env j).mono a2
  obtain⟨C',g1,g2,g3,g4,g5⟩:=ac8 ps Rs hs1 (by simpa using hl) (fun i p' R' hi hi'=>by
   have X':=hp (i+1) p' R' (by simpa using hi) (by simpa using hi');refine ⟨X'.len,fun j q hb hq hh=>?_,X'.dis,fun C1 w1 n e1 hn hl=>X'.val C1 w1 n (a2.trans e1) hn hl⟩;obtain ⟨P1,e1⟩:=X'.priv j q hb hq hh;have key:∀ b,InP (q.1,q.2) b->Untr (adoptL C R) b:=fun b hb=>by
    have hu:=P1.untr hb;refine ⟨fun ho=>?_,fun l h1 h2=>hu.2 l (by rw [<- a7];exact h1) (by rw [<- a6];exact h2)⟩;rcases a8 b ho with h|⟨r,hr,hi2⟩
    .exact hu.1 h
    .exact hap.1 R' (List.mem_of_getElem? hi') b ⟨r,hr,hi2⟩ ⟨q,List.mem_of_getElem? hq,hb⟩
   exact⟨⟨P1.blk.mono a2 (fun _ _=>rfl),P1.n,fun b hb=>key b (.inl hb),P1.deep,P1.nd,fun b hb=>⟨key b (.inr hb),(P1.low b hb).2⟩⟩,e1⟩) hap.2
  refine⟨C',g1,g2.trans a6,g3.trans a7,fun u hu=>?_,fun b h=>?_⟩
  .rw [g4 u hu];have:=hs.heap.two;exact a5 u (by omega)
  .rcases g5 b h with h|⟨M,hM,hb⟩
   .rcases a8 b h with h|⟨r,hr,hi⟩
    .exact .inl h
    .exact .inr ⟨R,by simp,r,hr,hi⟩
   .exact .inr ⟨M,by simp [hM],hb⟩
def ONewX (P:Program)(s:St)(o:Oper)(p:PendX):Prop:=
 ∀ C w a,StRep C w a s->∀(K:Act->World->Prop) (Q:Exit->Act->World->Prop),
  (∀ C' w' v R,XOK C' w' v p R->(∀ b,inR R b->w.heap.size<=b)->Ext C C' w w'->Fr C C' w w'->HSt C' w' s.heap->C'.nx=C.nx->(∀ l,C.lv l->C'.lv l)->K (a.put o.dst v) w')->o.wp P a w K Q
inductive YldX where
 |val (x:V)
 |new (p:PendX)
 |skip
def YldX.v:YldX->V
 |.val x=>x
 |.new _=>.junk
 |.skip=>.junk
def YldX.p:YldX->Option PendX
 |.new p=>some p
 |_=>none
def YldX.sk:YldX->Bool
 |.skip=>true
 |_=>false
def ydst (o:Oper):YldX->Option Nat
 |.skip=>none
 |_=>o.dst
def OYieldX (P:Program)(ops:List Oper)(o:Oper)(s:St):YldX->Prop
 |.val x=>OYield P ops o s x
 |.new p=>gd ops (s.only (gSlots ops o)) o.guard=some true/\o.dst=some p.d/\ONewX P (s.only (opSlots o)) o p
 |.skip=>True
theorem yieldX_same {P:Program}{ops:List Oper}{o:Oper}{s s':St}{y:YldX}(he:∀ t∈opSlots o++gSlots ops o,eget s.env t=eget s'.env t)(hh:s.heap=s'.heap)(hx:s.nx=s'.nx)(hn:s.n=s'.n)(hl:s.lv=s'.lv)
 (h:OYieldX P ops o s y):OYieldX P ops o s' y:=by
 cases y with
 |val x=>exact aq6 he hh hx hn hl h
 |skip=>trivial
 |new p=>
  obtain⟨h1,h2,h3⟩:=h;refine ⟨?_,h2,?_⟩
  .rw [<- fR (gSlots ops o) (fun t ht=>he t (List.mem_append.2 (.inr ht))) hh hx hn hl];exact h1
  .rw [<- fR (opSlots o) (fun t ht=>he t (List.mem_append.2 (.inl ht))) hh hx hn hl];exact h3
def ADX (P:Program)(ops:List Oper):List Oper->St->(List (Option Nat×YldX)->St->Prop)->Prop
 | [],s,K=>K [] s
 |o::r,s,K=>∃ y s1,OYieldX P ops o s y/\s.put (ydst o y) y.v=some s1/\ADX P ops r s1 (fun l=>K ((ydst o y,y)::l))
def valsX (L:List (Option Nat×YldX)):List (Option Nat×V):=L.map fun p=>(p.1,p.2.v)
theorem adx_spec {P:Program}{ops:List Oper}:∀(l:List Oper) (s:St) (K:List (Option Nat×YldX)->St->Prop),ADX P ops l s K->
 ∃ L sf,K L sf/\L.length=l.length/\(∀ t,eget sf.env t=after (eget s.env) (valsX L) t)/\SameBut sf s/\
  ∀ j o,l[j]? =some o->∃ p sj,L[j]? =some p/\p.1=ydst o p.2/\OYieldX P ops o sj p.2/\(∀ t,eget sj.env t=after (eget s.env) (valsX (L.take j)) t)/\SameBut sj s/\(∀ u,ydst o p.2=some u->u<s.n)
 | [],s,K,h=>⟨[],s,h,rfl,fun _=>rfl,⟨rfl,rfl,rfl,rfl⟩,fun j o hj=>by simp at hj⟩
 |o::r,s,K,h=>by
  obtain⟨x,s1,h1,h2,h3⟩:=h;obtain ⟨L,sf,g1,g2,g3,g4,g5⟩:=adx_spec r s1 _ h3;obtain ⟨p1,p2,p3,p4,p5,p6⟩:=sK h2;have hE:eget s1.env=fun u=>if ydst o x=some u then x.v else eget s.env u:=funext p1
  refine⟨(ydst o x,x)::L,sf,g1,by simp [g2],fun t=>by rw [g3 t,hE];rfl,⟨g4.heap.trans p2,g4.nx.trans p3,g4.n.trans p4,g4.lv.trans p5⟩,fun j o' hj=>?_⟩;cases j with
  |zero=>
   simp at hj;subst hj;exact ⟨_,s,by simp;rfl,rfl,h1,fun t=>by simp [after,valsX],⟨rfl,rfl,rfl,rfl⟩,p6⟩
  |succ j=>
   obtain⟨p,sj,q1,q2,q3,q4,q5,q6⟩:=g5 j o' (by simpa using hj);exact ⟨p,sj,by simpa using q1,q2,q3,fun t=>by rw [q4 t,hE];rfl,⟨q5.heap.trans p2,q5.nx.trans p3,q5.n.trans p4,q5.lv.trans p5⟩,fun u hu=>by rw [<- p4];exact q6 u hu⟩
section
variable {P:Program} {ops:List Oper} {m:Nat}
def MadeX (m:Nat)(pl:Nat->Option PendX)(n0:Nat)(listed:Array Bool)(C:Ctx)(w:World)(a:Act):Prop:=
 ∃ Rf:Nat->List (Loc×List Nat),(∀ i p,i<m->pl i=some p->listed.getD i false=true->XOK C w (a.tmps.getD p.d undef) p (Rf i)/\∀ b,inR (Rf i) b->n0<=b)/\
  ∀ i j p q,i<m->j<m->i≠j->pl i=some p->pl j=some q->listed.getD i false=true->listed.getD j false=true->∀ b,inR (Rf i) b->¬ inR (Rf j) b
def unl (m:Nat)(listed:Array Bool):Nat:=((List.range m).filter fun i=>!listed.getD i false).length
theorem ae6 {s0:St}{yl:Nat->YldX}{d1:List Nat}{C0:Ctx}{w0:World}{Q:Exit->Act->World->Prop}{g:Nat}(hok:drawOk ops m=true)
 (hd1:∀ t,t<ops.length->(m<=t\/(yl t).sk=true)->∀ i∈d1,anc ops ops.length t i=true) (hd2:∀ i∈d1,i<m)
 (hy:∀ i o,i<m->ops[i]? =some o->(yl i).sk=false->∃ si,OYieldX P ops o si (yl i)/\SameBut si s0/\(∀ u,o.dst=some u->u<s0.n)/\
  (∀ t,(∀ j,j<m->(yl j).sk=false->dstAt ops j=some t->j<i->eget si.env t=(yl j).v)/\((∀ j,j<m->(yl j).sk=false->dstAt ops j=some t->¬ j<i)->eget si.env t=eget s0.env t)))
 (hend:∀ listed C w a s,StRep C w a s->Fr C0 C w0 w->Cur ops m (fun i=>(yl i).v) s0 listed s->MadeX m (fun i=>(yl i).p) w0.heap.size listed C w a->LInv ops listed->(∀ i∈d1,listed.getD i false=true)->(∀ i,listed.getD i false=true->i<m/\(yl i).sk=false)->wpAny P .any ⟨ops⟩ Q (unl m listed+g) listed a w):
 ∀(f:Nat) (listed:Array Bool) C w a s,unl m listed=f->StRep C w a s->Fr C0 C w0 w->Cur ops m (fun i=>(yl i).v) s0 listed s->MadeX m (fun i=>(yl i).p) w0.heap.size listed C w a->LInv ops listed->(∀ i,listed.getD i false=true->i<m/\(yl i).sk=false)->
  wpAny P .any ⟨ops⟩ Q (f+g) listed a w
 |f,listed,C,w,a,s,hf,hs,hF,hc,hM,inv,hno=>by
  by_cases hall:∀ i∈d1,listed.getD i false=true
  .rw [<- hf];exact hend listed C w a s hs hF hc hM inv hall hno
  obtain⟨i0,hi0d,hl0⟩:∃ i0,i0∈d1/\listed.getD i0 false=false:=by
   rcases Classical.em (∃ i0,i0∈d1/\listed.getD i0 false=false)with h|h
   .exact h
   .exact absurd (fun i hi=>by
     cases hl:listed.getD i false with
     |true=>rfl
     |false=>exact absurd ⟨i,hi,hl⟩ h) hall
  have hi0:=hd2 i0 hi0d;obtain ⟨c1,c2,c3,c4,c5⟩:=chkAnd hok;have hc5:m<=ops.length:=c5
  match f,hf with
  |0,hf=>
   have:=List.filter_eq_nil_iff.1 (List.length_eq_zero_iff.1 hf) i0 (List.mem_range.2 hi0);rw [hl0]at this;exact absurd rfl this
  |f+1,hf=>
  rw [show f+1+g=(f+g)+1 by omega];obtain ⟨j0,_,hj0⟩:=tY inv c1 i0 (by omega) hl0;refine ⟨fun h0=>by rw [h0]at hj0;simp at hj0,fun i hi=>?_⟩;obtain ⟨i1,i2,i3⟩:=gV hi;have hil:listed.getD i false=false:=by rwa [nP (by rw [inv.size];exact i2)]at i1
  have hnot:¬ (m<=i\/(yl i).sk=true):=fun h=>by
   have:=bP inv _ i i0 i3 (hd1 i i2 h i0 hi0d);rw [hl0]at this;cases this
  have him:i<m:=by omega
  have hisk:(yl i).sk=false:=by
   cases h:(yl i).sk with
   |false=>rfl
   |true=>exact absurd (.inr h) hnot
  have hoi:ops[i]? =some ops[i]:=List.getElem?_eq_getElem i2;have hop:(⟨ops⟩:Array Oper)[i]? =some ops[i]:=by simp [i2]
  obtain⟨si,y1,y2,y3,y4⟩:=hy i ops[i] him hoi hisk;have hdi:dstAt ops i=ops[i].dst:=by simp [dstAt,hoi]
  have hsame:∀ t∈opSlots ops[i]++gSlots ops ops[i],eget si.env t=eget s.env t:=fun t ht=>by
   by_cases hw:∃ j,j<m/\dstAt ops j=some t
   .obtain ⟨j,hj,hjt⟩:=hw;have huniq:∀ j',j'<m->dstAt ops j'=some t->j'=j:=fun j' h1 h2=>aF c3 h1 hj h2 hjt;have hn:needs ops i=opSlots ops[i]++gSlots ops ops[i]:=by simp [needs,hoi]
    have hck:=List.all_eq_true.1 (List.all_eq_true.1 (List.all_eq_true.1 c2 i (List.mem_range.2 him)) t (by rw [hn];exact ht)) j (List.mem_range.2 hj);simp only [Bool.or_eq_true,Bool.not_eq_true',hjt]at hck;rcases Nat.lt_trichotomy j i with hlt|heq|hgt
    .have hja:anc ops ops.length i j=true:=by
      rcases hck with (h|h)|h
      .rw [Nat.beq_eq]at h;omega
      .simp at h
      .rwa [show Nat.blt j i=true from by simpa using hlt]at h
     have hjl:=bP inv _ i j i3 hja;rw [(y4 t).1 j hj (hno j hjl).2 hjt hlt,hc.on j t hj hjt hjl]
    .subst heq;rw [(y4 t).2 (fun j' h1 _ h2=>by rw [huniq j' h1 h2];omega),hc.off t (fun j' h1 h2=>by rw [huniq j' h1 h2];exact hil)]
    .have hja:anc ops ops.length j i=true:=by
      rcases hck with (h|h)|h
      .rw [Nat.beq_eq]at h;omega
      .simp at h
      .rwa [show Nat.blt j i=false from Bool.eq_false_iff.2 (by rw [ne_eq,Nat.blt_eq];omega)]at h
     have hjl:listed.getD j false=false:=by
      cases hjl:listed.getD j false with
      |false=>rfl
      |true=>
       have:=bP inv _ j i (fun k hk=>inv.closed j k hjl hk) hja;rw [hil]at this;cases this
     rw [(y4 t).2 (fun j' h1 _ h2=>by rw [huniq j' h1 h2];omega),hc.off t (fun j' h1 h2=>by rw [huniq j' h1 h2];exact hjl)]
   .have hnone:∀ j,j<m->dstAt ops j=some t->False:=fun j h1 h2=>hw ⟨j,h1,h2⟩;rw [(y4 t).2 (fun j h1 _ h2=>(hnone j h1 h2).elim),hc.off t (fun j h1 h2=>(hnone j h1 h2).elim)]
  have hyi:OYieldX P ops ops[i] s (yl i):=yieldX_same hsame (y2.heap.trans hc.mt.heap.symm) (y2.nx.trans hc.mt.nx.symm) (y2.n.trans hc.mt.n.symm) (y2.lv.trans hc.mt.lv.symm) y1;obtain ⟨s1,hs1⟩:=put_of (s:=s) (d:=ops[i].dst) (x:=(yl i).v) (fun u hu=>by rw [hc.mt.n];exact y3 u hu);obtain ⟨p1,p2,p3,p4,p5,p6⟩:=sK hs1;have hcur:Cur ops m (fun i=>(yl i).v) s0 (listed.setIfInBounds i true) s1:=by
   refine⟨fun j t hj hjt hl=>?_,fun t ht=>?_,⟨p2.trans hc.mt.heap,p3.trans hc.mt.nx,p4.trans hc.mt.n,p5.trans hc.mt.lv⟩⟩
   .rw [p1 t];by_cases hji:j=i
    .subst hji;rw [if_pos (by rw [<- hdi];exact hjt)]
    .rw [getD_set_ne false (fun e=>hji e.symm)]at hl;rw [if_neg (fun e=>hji (aF c3 hj him hjt (by rw [hdi];exact e)))];exact hc.on j t hj hjt hl
   .rw [p1 t];have hne:¬ ops[i].dst=some t:=fun e=>by
     have:=ht i him (by rw [hdi];exact e);simp [inv.size,i2]at this
    rw [if_neg hne];refine hc.off t (fun j hj hjt=>?_);have hji:j≠i:=fun e=>by subst e;exact hne (by rw [<- hdi];exact hjt)
    have:=ht j hj hjt
    rwa [getD_set_ne false (fun e=>hji e.symm)]at this
  have hinv2:=inv.set hi;have hcnt:unl m (listed.setIfInBounds i true)=f:=by
   have:=count_set m i (fun j=>!listed.getD j false) (fun j=>!(listed.setIfInBounds i true).getD j false) him (by simp [hil]) (by simp [inv.size,i2]) (fun j hj=>by rw [getD_set_ne false (fun e=>hj e.symm)]);unfold unl at hf |-;omega
  have hno2:∀ j,(listed.setIfInBounds i true).getD j false=true->j<m/\(yl j).sk=false:=fun j hj=>by
   by_cases hji:j=i
   .subst hji;exact⟨him,hisk⟩
   .rw [getD_set_ne false (fun e=>hji e.symm)]at hj;exact hno j hj
  have next:∀ C' w' a',StRep C' w' a' s1->Fr C0 C' w0 w'->MadeX m (fun i=>(yl i).p) w0.heap.size (listed.setIfInBounds i true) C' w' a'->wpAny P .any ⟨ops⟩ Q (f+g) (listed.setIfInBounds i true) a' w':=fun C' w' a' h1 h2 h3=>
   ae6 hok hd1 hd2 hy hend f _ C' w' a' s1 hcnt h1 h2 hcur h3 hinv2 hno2
  have hz:C.lv 0/\C.lv 1:=⟨hs.heap.zero.1,hs.heap.zero.2.1⟩
  have stay:∀ C' w' v,Ext C C' w w'->Fr C C' w w'->∀ Rf:Nat->List (Loc×List Nat),∀ j p,j<m->j≠i->(yl j).p=some p->(XOK C w (a.tmps.getD p.d undef) p (Rf j)/\∀ b,inR (Rf j) b->w0.heap.size<=b)->XOK C' w' ((a.put ops[i].dst v).tmps.getD p.d undef) p (Rf j)/\∀ b,inR (Rf j) b->w0.heap.size<=b:=fun C' w' v E F Rf j p hj hji hp h=>by
   refine⟨?_,h.2⟩;have hjl:j<ops.length:=by omega
   have hjs:(yl j).sk=false:=by
    cases hyj:yl j with
    |skip=>rw [hyj]at hp;cases hp
    |_=>rfl
   obtain⟨sj,z1,_,_,_⟩:=hy j ops[j] hj (List.getElem?_eq_getElem hjl) hjs;have hdj:ops[j].dst=some p.d:=by
    cases hyj:yl j with
    |val x=>rw [hyj]at hp;cases hp
    |skip=>rw [hyj]at hp;cases hp
    |new p'=>
     rw [hyj]at hp z1;simp only [YldX.p,Option.some.injEq]at hp;subst hp;exact z1.2.1
   rw [au0 (fun e=>hji (aF c3 hj him (t:=p.d) (by simp [dstAt,List.getElem?_eq_getElem hjl,hdj]) (by rw [hdi];exact e)))];exact h.1.mono hz E F
  obtain⟨Rf,m1,m2⟩:=hM;have hlst:∀ j,j≠i->(listed.setIfInBounds i true).getD j false=listed.getD j false:=fun j hj=>getD_set_ne false (fun e=>hj e.symm);unfold wpOp;rw [hop];simp only;cases hyl:yl i with
  |skip=>rw [hyl]at hisk;cases hisk
  |val x=>
   rw [hyl]at hyi hs1;have made:∀ C' w' v,Ext C C' w w'->Fr C C' w w'->MadeX m (fun i=>(yl i).p) w0.heap.size (listed.setIfInBounds i true) C' w' (a.put ops[i].dst v):=fun C' w' v E F=>by
    refine⟨Rf,fun j p hj hp hl=>?_,fun j k p q hj hk hjk hp hq hlj hlk=>?_⟩
    .have hji:j≠i:=fun e=>by subst e;simp [hyl,YldX.p]at hp
     rw [hlst j hji]at hl;exact stay C' w' v E F Rf j p hj hji hp (m1 j p hj hp hl)
    .have hji:j≠i:=fun e=>by subst e;simp [hyl,YldX.p]at hp
     have hki:k≠i:=fun e=>by subst e;simp [hyl,YldX.p]at hq
     rw [hlst j hji]at hlj;rw [hlst k hki]at hlk;exact m2 j k p q hj hk hjk hp hq hlj hlk
   rcases hyi with ⟨hg,hr⟩|⟨hg,hx⟩
   .rw [if_pos (hO (ops:=⟨ops⟩) (cO hs _) hg)];refine .inl (hr C w a (cO hs _) _ Q (fun C' w' v r1 r2 r3 r4 r5 r6=>next C' w' _ ?_ (hF.trans r3) (made C' w' v r2 r3)));exact W2 ⟨hs.defers,hs.size,by rw [r5];exact hs.nx,fun k=>(hs.env k).mono r2,r4,fun l hl=>r6 l (hs.lv l hl)⟩ r1 hs1
   .rw [if_neg (by rw [hO (ops:=⟨ops⟩) (cO hs _) hg];simp)];have hs1':s.put ops[i].dst (.tup [])=some s1:=by rw [<- hx];exact hs1
    exact next C w _ (W2 hs (.tup .nil) hs1') hF (made C w _ (Ext.refl _ _) (Fr.refl _ _))
  |new p=>
   rw [hyl]at hyi hs1;obtain ⟨hg,hd,hr⟩:=hyi;rw [if_pos (hO (ops:=⟨ops⟩) (cO hs _) hg)];refine .inl (hr C w a (cO hs _) _ Q (fun C' w' v R q1 q4 r2 r3 r4 r5 r6=>next C' w' _ ?_ (hF.trans r3) ?_))
   .exact W2 (x:=.junk) ⟨hs.defers,hs.size,by rw [r5];exact hs.nx,fun k=>(hs.env k).mono r2,r4,fun l hl=>r6 l (hs.lv l hl)⟩ (.junk v) hs1
   .refine ⟨fun j=>if j=i then R else Rf j,fun j p' hj hp hl=>?_,fun j k p' q' hj hk hjk hp hq hlj hlk=>?_⟩
    .by_cases hji:j=i
     .subst hji;simp only [hyl,YldX.p,Option.some.injEq]at hp;subst hp;simp only [if_pos];have hdn:p.d<s.n:=p6 _ (by rw [hd]);refine ⟨?_,fun b hb=>Nat.le_trans hF.size (q4 b hb)⟩;rw [hd];have:(a.put (some p.d) v).tmps.getD p.d undef=v:=by
       have:p.d<a.tmps.size:=by rw [hs.size];exact hdn
       simp [Act.put,Array.getD,this]
      rw [this];exact q1
     .rw [hlst j hji]at hl;simp only [if_neg hji];exact stay C' w' v r2 r3 Rf j p' hj hji hp (m1 j p' hj hp hl)
    .by_cases hji:j=i
     .have hki:k≠i:=fun e=>hjk (hji.trans e.symm);simp only [if_pos hji,if_neg hki];rw [hlst k hki]at hlk;intro b hb hb';have h1:=q4 b hb;have h2:=((m1 k q' hk hq hlk).1.each hb').1;omega
     .rw [hlst j hji]at hlj;by_cases hki:k=i
      .simp only [if_neg hji,if_pos hki];intro b hb hb';have h1:=q4 b hb';have h2:=((m1 j p' hj hp hlj).1.each hb).1;omega
      .rw [hlst k hki]at hlk;simp only [if_neg hji,if_neg hki];exact m2 j k p' q' hj hk hjk hp hq hlj hlk
def selE (f:Nat->Bool):Nat->List (Option Nat×YldX)->List (Nat×V)->List (Nat×V)
 |_,[],env=>env
 |k,(some d,y)::r,env=>selE f (k+1) r (bif f k then(d,y.v)::env else env)
 |k,(none,_)::r,env=>selE f (k+1) r env
def selP (f:Nat->Bool):Nat->List (Option Nat×YldX)->List PendX
 |_,[]=>[]
 |k,(_,.new p)::r=>bif f k then p::selP f (k+1) r else selP f (k+1) r
 |k,(_,.val _)::r=>selP f (k+1) r
 |k,(_,.skip)::r=>selP f (k+1) r
theorem xM {f:Nat->Bool}{t:Nat}:∀(L:List (Option Nat×YldX)) (k:Nat) (env:List (Nat×V)),(∀ i y,L[i]? =some (some t,y)->f (k+i)=false)->eget (selE f k L env) t=eget env t
 | [],_,_,_=>rfl
 |(some d,y)::r,k,env,h=>by
  simp only [selE];rw [xM r (k+1) _ (fun i y hi=>by have:=h (i+1) y (by simpa using hi);rwa [show k+(i+1)=k+1+i by omega]at this)];cases hf:f k with
  |false=>rfl
  |true=>
   simp only [cond_true,eget];rw [Bool.cond_eq_ite,if_neg];intro e;rw [Nat.beq_eq]at e;have:=h 0 y (by simp [e]);rw [Nat.add_zero,hf]at this;cases this
 |(none,y)::r,k,env,h=>by
  simp only [selE];exact xM r (k+1) _ (fun i y hi=>by have:=h (i+1) y (by simpa using hi);rwa [show k+(i+1)=k+1+i by omega]at this)
theorem selE_hit {f:Nat->Bool}{t:Nat}{y:YldX}:∀(L:List (Option Nat×YldX)) (k j:Nat) (env:List (Nat×V)),L[j]? =some (some t,y)->f (k+j)=true->(∀ i y',i≠j->L[i]? =some (some t,y')->False)->eget (selE f k L env) t=y.v
 | [],_,_,_,h,_,_=>by simp at h
 |(x,y0)::r,k,0,env,h,hf,hu=>by
  simp at h;obtain ⟨rfl,rfl⟩:=h;simp only [selE];rw [xM r (k+1) _ (fun i y hi=>(hu (i+1) y (by omega) (by simpa using hi)).elim)];rw [Nat.add_zero]at hf;rw [hf];simp [eget]
 |(x,y0)::r,k,j+1,env,h,hf,hu=>by
  have ih:=fun env'=>selE_hit (f:=f) r (k+1) j env' (by simpa using h) (by rwa [show k+1+j=k+(j+1)by omega]) (fun i y' hi hy=>hu (i+1) y' (by omega) (by simpa using hy));cases x with
  |none=>exact ih _
  |some d=>exact ih _
theorem selP_list {f:Nat->Bool}{C:Ctx}{w:World}{a:Act}{n0:Nat}{Rf:Nat->List (Loc×List Nat)}:∀(L:List (Option Nat×YldX)) (k:Nat),(∀ (i:Nat) x q,L[i]? =some (x,.new q)->f (k+i)=true->XOK C w (a.tmps.getD q.d undef) q (Rf (k+i))/\∀ b,inR (Rf (k+i)) b->n0<=b)->
 (∀ (i j:Nat) x y p q,i≠j->L[i]? =some (x,.new p)->L[j]? =some (y,.new q)->f (k+i)=true->f (k+j)=true->∀ b,inR (Rf (k+i)) b->¬ inR (Rf (k+j)) b)->
 ∃ Rs:List (List (Loc×List Nat)),(selP f k L).length=Rs.length/\(∀ (i:Nat) p M,(selP f k L)[i]? =some p->Rs[i]? =some M->XOK C w (a.tmps.getD p.d undef) p M)/\ApartX Rs/\(∀ M∈Rs,∃ i x q,L[i]? =some (x,.new q)/\f (k+i)=true/\M=Rf (k+i))/\∀ M∈Rs,∀ b,inR M b->n0<=b
 | [],k,_,_=>⟨[],rfl,fun i p M h=>by simp [selP]at h,trivial,fun M h=>by simp at h,fun M h=>by simp at h⟩
 |(x0,v)::r,k,h1,h2=>by
  obtain⟨Ls,g1,g2,g3,g4,g5⟩:=selP_list r (k+1) (fun i x q hp hf=>by
   have:=h1 (i+1) x q (by simpa using hp);rw [show k+(i+1)=k+1+i by omega]at this;exact this hf) (fun i j x y p q hij hp hq hf hf' b=>by
   have:=h2 (i+1) (j+1) x y p q (by omega) (by simpa using hp) (by simpa using hq);rw [show k+(i+1)=k+1+i by omega,show k+(j+1)=k+1+j by omega]at this;exact this hf hf' b)
  have old:selP f k ((x0,v)::r)=selP f (k+1) r->∃ Rs:List (List (Loc×List Nat)),(selP f k ((x0,v)::r)).length=Rs.length/\(∀ (i:Nat) p M,(selP f k ((x0,v)::r))[i]? =some p->Rs[i]? =some M->XOK C w (a.tmps.getD p.d undef) p M)/\ApartX Rs/\(∀ M∈Rs,∃ i x q,((x0,v)::r)[i]? =some (x,.new q)/\f (k+i)=true/\M=Rf (k+i))/\∀ M∈Rs,∀ b,inR M b->n0<=b:=fun e=>by
   rw [e];refine ⟨Ls,g1,g2,g3,fun M hM=>?_,g5⟩;obtain ⟨i,x,q,q1,q2,q3⟩:=g4 M hM;exact ⟨i+1,x,q,by simpa using q1,by rw [<- q2];congr 1;omega,by rw [q3];congr 1;omega⟩
  cases v with
  |val _=>exact old rfl
  |skip=>exact old rfl
  |new q=>
   cases hf:f k with
   |false=>exact old (by simp [selP,hf])
   |true=>
    have e:selP f k ((x0,.new q)::r)=q::selP f (k+1) r:=by simp [selP,hf]
    rw [e];have h0:=h1 0 x0 q rfl (by rw [Nat.add_zero];exact hf);rw [Nat.add_zero]at h0;refine ⟨Rf k::Ls,by simp [g1],fun i p M hp hM=>?_,⟨fun M hM b hb=>?_,g3⟩,fun M hM=>?_,fun M hM=>?_⟩
    .cases i with
     |zero=>simp at hp hM;subst hp;subst hM;exact h0.1
     |succ i=>exact g2 i p M (by simpa using hp) (by simpa using hM)
    .obtain ⟨i,x,q',q1,q2,q3⟩:=g4 M hM;rw [q3,show k+1+i=k+(i+1)by omega];exact h2 0 (i+1) x0 x q q' (by omega) rfl (by simpa using q1) (by rw [Nat.add_zero];exact hf) (by rw [<- q2];congr 1;omega) b (by rw [Nat.add_zero];exact hb)
    .rcases List.mem_cons.1 hM with rfl|hM
     .exact ⟨0,x0,q,rfl,by rw [Nat.add_zero];exact hf,by rw [Nat.add_zero]⟩
     .obtain ⟨i,x,q',q1,q2,q3⟩:=g4 M hM;exact ⟨i+1,x,q',by simpa using q1,by rw [<- q2];congr 1;omega,by rw [q3];congr 1;omega⟩
    .rcases List.mem_cons.1 hM with rfl|hM
     .exact h0.2
     .exact g5 M hM
theorem same_adoptX {s s':St}(p:PendX)(h:Same s s'):Same (s.adoptX p) (s'.adoptX p):=by
 obtain⟨d,hbs,y⟩:=p;cases s;cases s';obtain ⟨h1,h2,h3,h4,h5⟩:=h;dsimp only at h1 h2 h3 h4 h5;subst h2;subst h3;subst h4;subst h5;exact ⟨fun t=>by simp only [St.adoptX,eget];rw [h1 t],rfl,rfl,rfl,rfl⟩
theorem aa0:∀(ps:List PendX) {s s':St},Same s s'->Same (s.adoptsX ps) (s'.adoptsX ps)
 | [],_,_,h=>h
 |p::ps,_,_,h=>aa0 ps (same_adoptX p h)
theorem adoptsX_fr {C0 C C':Ctx}{w0 w:World}{Rs:List (List (Loc×List Nat))}(F:Fr C0 C w0 w)(h1:C'.reg=C.reg)(h3:∀ u,u<12->C'.loc u=C.loc u)(h4:∀ b,Own C' b->Own C b\/∃ R∈Rs,inR R b)(h5:∀ R∈Rs,∀ b,inR R b->w0.heap.size<=b):Fr C0 C' w0 w where
 size:=F.size
 keep:=F.keep
 own b hb:=by
  rcases h4 b hb with g|⟨R,hR,g⟩
  .exact F.own b g
  .exact .inr (h5 R hR b g)
 r0 b hb:=F.r0 b (by rw [<- h1];exact hb)
 r1 b hb:=F.r1 b (by rw [<- h1];exact hb)
 os:=F.os
 out:=F.out
 low u hu L' h:=F.low u hu L' (by rw [<- h3 u hu];exact h)
def skAt (L:List (Option Nat×YldX))(i:Nat):Bool:=match L[i]? with |some (_,y)=>y.sk|none=>false
def okY (ops:List Oper)(m:Nat)(d1:List Nat)(L:List (Option Nat×YldX)):Bool:=
 ((List.range ops.length).all fun t=>(Nat.blt t m&&!skAt L t)||d1.all fun i=>anc ops ops.length t i)&&d1.all (fun i=>Nat.blt i m)
def subs:List Nat->List (List Nat)
 | []=>[[]]
 |x::r=>subs r++(subs r).map (x::·)
theorem af0 (p:Nat->Bool):∀ l:List Nat,l.filter p∈subs l
 | []=>by simp [subs]
 |x::r=>by
  have ih:=af0 p r;cases h:p x<;>simp [subs,h,ih]
def flts (m:Nat)(d1:List Nat)(L:List (Option Nat×YldX)):List Nat:=(List.range m).filter fun i=>!skAt L i&&!memb i d1
def clsd (ops:List Oper)(d1 F:List Nat):Bool:=F.all fun i=>(deps ops i).all fun k=>memb k d1||memb k F
def lsel (d1 F:List Nat)(i:Nat):Bool:=memb i d1||memb i F
def larr (n:Nat)(f:Nat->Bool):Array Bool:=⟨(List.range n).map f⟩
theorem oD {i:Nat}:∀{l:List Nat},memb i l=true↔i∈l
 | []=>by simp [memb]
 |a::r=>by
  simp only [memb,Bool.cond_eq_ite,List.mem_cons];split
  .rename_i h;rw [Nat.beq_eq]at h;simp [h]
  .rename_i h;rw [Nat.beq_eq]at h;rw [oD];simp [h]
def AllS (Φ:List Nat->Prop):List (List Nat)->Prop
 | []=>True
 |F::r=>Φ F/\AllS Φ r
theorem allS_mem {Φ:List Nat->Prop}:∀{l:List (List Nat)},AllS Φ l->∀ F∈l,Φ F
 |_::_,h,F,hF=>by
  rcases List.mem_cons.1 hF with rfl|hF
  .exact h.1
  .exact allS_mem h.2 F hF
def Left (P:Program)(ops:List Oper)(m:Nat)(J:St)(d1:List Nat)(s0:St)(L:List (Option Nat×YldX))(F:List Nat):Prop:=
 ∃(k:Nat) (s2:St),unl m (larr ops.length (lsel d1 F))=k/\({ s0 with env:=selE (lsel d1 F) 0 L s0.env }:St).adoptsX (selP (lsel d1 F) 0 L)=s2/\APerm P ops m J k (larr ops.length (lsel d1 F)) s2
theorem at_drawnX {id:Nat}{l:List Oper}{s:St}{K:Exit->St->Prop}(m:Nat)(d1:List Nat)(J:St)(hm:P.follows .mixedOrders=true)(hok:drawOk l m=true)
 (h:ADX P l (l.take m) s (fun L _=>okY l m d1 L=true/\AllS (Left P l m J d1 s L) ((subs (flts m d1 L)).filter (clsd l d1)))) (hJ:AOps P ⟨l⟩ (l.drop m) J (fun s'=>K .normal s')):AT P (.region id ⟨l⟩ true) s K:=by
 intro C w a hs;obtain ⟨c1,c2,c3,c4,c5⟩:=chkAnd hok;have c5':m<=l.length:=c5;obtain ⟨L,sf,⟨k0,k1⟩,g2,g3,g4,g5⟩:=adx_spec _ _ _ h;have hlen:(l.take m).length=m:=by simp;omega
 rw [hlen]at g2;have hw:Agree w { w with drawn:=w.drawn+1 }:=⟨Nat.le_refl _,fun _ _=>rfl,rfl,rfl⟩
 have hs0:StRep C { w with drawn:=w.drawn+1 } a s:=lQ hs hw
 let yl:Nat->YldX:=fun i=>(L.getD i (none,.skip)).2
 have hval:∀ i p,L[i]? =some p->yl i=p.2:=fun i p hp=>by simp [yl,List.getD,hp]
 have hget:∀ i,i<m->∃ o p,l[i]? =some o/\L[i]? =some p/\p.1=ydst o p.2:=fun i hi=>by
  have hil:i<l.length:=by omega
  obtain⟨p,_,q1,q2,_⟩:=g5 i l[i] (by rw [List.getElem?_take,if_pos hi];exact List.getElem?_eq_getElem hil);exact ⟨_,p,List.getElem?_eq_getElem hil,q1,q2⟩
 have hLm:∀ i p,L[i]? =some p->i<m:=fun i p hp=>by
  have:=(List.getElem?_eq_some_iff.1 hp).1;omega
 have hdst:∀ j p,L[j]? =some p->(yl j).sk=false->p.1=dstAt l j:=fun j p hp hsk=>by
  obtain⟨o,p',h1,h2,h3⟩:=hget j (hLm j p hp);rw [hp]at h2;simp only [Option.some.injEq]at h2;subst h2;rw [hval j p hp]at hsk;rw [h3];have e:dstAt l j=o.dst:=by simp [dstAt,h1]
  rw [e];cases hy:p.2 with
  |skip=>rw [hy]at hsk;cases hsk
  |_=>rfl
 have hnone:∀ j p,L[j]? =some p->(yl j).sk=true->p.1=none:=fun j p hp hsk=>by
  obtain⟨o,p',h1,h2,h3⟩:=hget j (hLm j p hp);rw [hp]at h2;simp only [Option.some.injEq]at h2;subst h2;rw [hval j p hp]at hsk;rw [h3];cases hy:p.2 with
  |skip=>rfl
  |val _=>rw [hy]at hsk;cases hsk
  |new _=>rw [hy]at hsk;cases hsk
 have hskL:∀ i,i<m->skAt L i=(yl i).sk:=fun i hi=>by
  obtain⟨o,p,_,h2,_⟩:=hget i hi;simp [skAt,h2,hval i p h2]
 have hvget:∀(j:Nat) p,L[j]? =some p->(valsX L)[j]? =some (p.1,p.2.v):=fun j p hp=>by simp [valsX,hp]
 have hvtake:∀ k:Nat,valsX (L.take k)=(valsX L).take k:=fun k=>by simp [valsX,List.map_take]
 have reads:∀(E:Nat->V) (k t:Nat),k<=m->(∀ j,j<m->(yl j).sk=false->dstAt l j=some t->j<k->after E ((valsX L).take k) t=(yl j).v)/\((∀ j,j<m->(yl j).sk=false->dstAt l j=some t->¬ j<k)->after E ((valsX L).take k) t=E t):=fun E k t hk=>by
  refine⟨fun j hj hjs hjt hjk=>?_,fun hnone'=>?_⟩
  .obtain ⟨o,p,_,hp,_⟩:=hget j hj;have h1:=hdst j p hp hjs;rw [hval j p hp];refine ac9 _ E t j (p.1,p.2.v) (by rw [List.getElem?_take,if_pos hjk];exact hvget j p hp) (by show p.1=some t;rw [h1];exact hjt) (fun j' q hne hq=>?_);rw [List.getElem?_take]at hq;split at hq
   .have hj':j'<m:=by omega
    obtain⟨o',p',_,hp',_⟩:=hget j' hj';rw [hvget j' p' hp']at hq;simp only [Option.some.injEq]at hq;subst hq;intro e;cases hs':(yl j').sk with
    |true=>have:=hnone j' p' hp' hs';rw [show p'.1=some t from e]at this;cases this
    |false=>exact hne (aF c3 hj' hj (by rw [<- hdst j' p' hp' hs'];exact e) hjt)
   .simp at hq
  .refine rR _ E t (fun p hp=>?_);obtain ⟨j,hj⟩:=List.getElem?_of_mem hp;rw [List.getElem?_take]at hj;split at hj
   .have hj':j<m:=by omega
    obtain⟨o',p',_,hp',_⟩:=hget j hj';rw [hvget j p' hp']at hj;simp only [Option.some.injEq]at hj;subst hj;intro e;cases hs':(yl j).sk with
    |true=>have:=hnone j p' hp' hs';rw [show p'.1=some t from e]at this;cases this
    |false=>exact hnone' j hj' hs' (by rw [<- hdst j p' hp' hs'];exact e) (by assumption)
   .simp at hj
 unfold okY at k0;rw [Bool.and_eq_true,List.all_eq_true,List.all_eq_true]at k0;obtain ⟨k2,k3⟩:=k0;refine wp_region_any hm ?_;have hsz:(⟨l⟩:Array Oper).size=m+(l.length-m):=by show l.length=_;omega
 rw [hsz];have hinv0:LInv l (Array.replicate (m+(l.length-m)) false):=⟨by simp;omega,fun i k hi _=>by rw [aN]at hi;cases hi⟩
 refine ae6 (s0:=s) (yl:=yl) (d1:=d1) (C0:=C) (w0:=w) hok ?_ ?_ ?_ ?_ m _ C _ a s ?_ hs0 (rS hw) ⟨fun i t _ _ hl=>?_,fun t _=>rfl,⟨rfl,rfl,rfl,rfl⟩⟩ ⟨fun _=>[],(fun i p _ _ hl=>by rw [aN]at hl;cases hl),(fun i j p q _ _ _ _ _ hl=>by rw [aN]at hl;cases hl)⟩ hinv0 (fun i hi=>by rw [aN]at hi;cases hi)
 .intro t ht hor i hi;have:=k2 t (List.mem_range.2 ht);rw [Bool.or_eq_true]at this;rcases this with h|h
  .rw [Bool.and_eq_true,Nat.blt_eq,Bool.not_eq_true']at h;rcases hor with h'|h'
   .omega
   .rw [hskL t h.1,h']at h;cases h.2
  .exact List.all_eq_true.1 h i hi
 .intro i hi;have:=k3 i hi;exact Nat.le_of_ble_eq_true this
 .intro i o hi ho hsk;obtain ⟨p,sj,q1,q2,q3,q4,q5,q6⟩:=g5 i o (by rw [List.getElem?_take,if_pos hi];exact ho);have hyd:ydst o p.2=o.dst:=by
   have:=hdst i p q1 hsk;rw [<- q2,this];simp [dstAt,ho]
  refine⟨sj,by rw [hval i p q1];exact q3,q5,by rw [<- hyd];exact q6,fun t=>?_⟩;have:=reads (eget s.env) i t (by omega);rw [q4 t,hvtake];exact this
 .intro listed C' w' a' s' r1 r2 r3 rM r4 r5 r6
  let F:=(flts m d1 L).filter fun i=>listed.getD i false
  have hfl:∀ i,listed.getD i false=true->i∈d1\/i∈F:=fun i h=>by
   by_cases hd:i∈d1
   .exact .inl hd
   .refine .inr (List.mem_filter.2 ⟨List.mem_filter.2 ⟨List.mem_range.2 (r6 i h).1,?_⟩,h⟩);rw [Bool.and_eq_true,hskL i (r6 i h).1,(r6 i h).2];refine ⟨rfl,?_⟩;rw [Bool.not_eq_true'];cases hmb:memb i d1 with
    |false=>rfl
    |true=>exact absurd (oD.1 hmb) hd
  have hF:F∈(subs (flts m d1 L)).filter (clsd l d1):=by
   refine List.mem_filter.2 ⟨af0 _ _,List.all_eq_true.2 fun i hi=>List.all_eq_true.2 fun k hk=>?_⟩;rw [Bool.or_eq_true,oD,oD];exact hfl k (r4.closed i k (List.mem_filter.1 hi).2 hk)
  obtain⟨k,s2,p1,p2,p3⟩:=allS_mem k1 F hF;have hsel:∀ i,i<l.length->lsel d1 F i=listed.getD i false:=fun i hi=>by
   unfold lsel;rw [Bool.eq_iff_iff,Bool.or_eq_true,oD,oD];constructor
   .rintro (h|h)
    .exact r5 i h
    .exact (List.mem_filter.1 h).2
   .intro h;by_cases hd:i∈d1
    .exact .inl hd
    .refine .inr (List.mem_filter.2 ⟨List.mem_filter.2 ⟨List.mem_range.2 (r6 i h).1,?_⟩,h⟩);rw [Bool.and_eq_true,hskL i (r6 i h).1,(r6 i h).2];refine ⟨rfl,?_⟩;rw [Bool.not_eq_true'];cases hmb:memb i d1 with
     |false=>rfl
     |true=>exact absurd (oD.1 hmb) hd
  have hl2:larr l.length (lsel d1 F)=listed:=by
   apply Array.ext
   .rw [r4.size];simp [larr]
   .intro i h1 h2;have hi:i<l.length:=by simpa [larr]using h1
    have:=hsel i hi;rw [Array.getD_eq_getD_getElem?,Array.getElem?_eq_getElem h2]at this;simpa [larr]using this
  rw [hl2]at p1 p3;have hsame:Same s' ({ s with env:=selE (lsel d1 F) 0 L s.env }:St):=by
   refine⟨fun t=>?_,r3.mt.heap,r3.mt.nx,r3.mt.n,r3.mt.lv⟩;show eget s'.env t=eget (selE (lsel d1 F) 0 L s.env) t;by_cases hw2:∃ j,j<m/\dstAt l j=some t/\listed.getD j false=true
   .obtain ⟨j,hj,hjt,hjl⟩:=hw2;obtain ⟨o,p,_,hp,_⟩:=hget j hj;have hjs:=(r6 j hjl).2;have hp1:L[j]? =some (some t,p.2):=by rw [hp,<- hjt,<- hdst j p hp hjs]
    rw [r3.on j t hj hjt hjl,selE_hit L 0 j _ hp1 (by rw [Nat.zero_add,hsel j (by omega)];exact hjl) (fun i y' hne hi=>by
     have hi':=hLm i _ hi;cases hs':(yl i).sk with
     |true=>have:=hnone i _ hi hs';cases this
     |false=>exact hne (aF c3 hi' hj (by rw [<- hdst i _ hi hs']) hjt))]
    rw [hval j p hp]
   .rw [r3.off t (fun j h1 h2=>by
     cases hl:listed.getD j false with
     |false=>rfl
     |true=>exact absurd ⟨j,h1,h2,hl⟩ hw2),xM L 0 _ (fun i y hi=>by
     rw [Nat.zero_add];have hi':=hLm i _ hi;rw [hsel i (by omega)];cases hl:listed.getD i false with
     |false=>rfl
     |true=>
      have:=hdst i _ hi (r6 i hl).2;exact absurd ⟨i,hi',this.symm,hl⟩ hw2)]
  obtain⟨Rf,m1,m2⟩:=rM;obtain ⟨Rs,t1,t2,t3,_,t5⟩:=selP_list (f:=lsel d1 F) (Rf:=Rf) (C:=C') (w:=w') (a:=a') (n0:=w.heap.size) L 0 (fun i x q hp hf=>by
   rw [Nat.zero_add]at hf |-;have hi:=hLm i _ hp;rw [hsel i (by omega)]at hf;exact m1 i q hi (by show(yl i).p=_;rw [hval i _ hp];rfl) hf) (fun i j x y p q hij hp hq hf hf' b=>by
   rw [Nat.zero_add]at hf hf' |-;rw [Nat.zero_add];have hi:=hLm i _ hp;have hj:=hLm j _ hq;rw [hsel i (by omega)]at hf;rw [hsel j (by omega)]at hf';exact m2 i j p q hi hj hij (by show(yl i).p=_;rw [hval i _ hp];rfl) (by show(yl j).p=_;rw [hval j _ hq];rfl) hf hf' b)
  obtain⟨C2,e1,e2,e3,e4,e5⟩:=ac8 (selP (lsel d1 F) 0 L) Rs r1 t1 t2 t3;have F2:=adoptsX_fr r2 e2 e4 e5 t5;have hs2:Same (s'.adoptsX (selP (lsel d1 F) 0 L)) s2:=by rw [<- p2];exact aa0 _ hsame
  have key:=xX (K:=fun s'=>K .normal s') (C0:=C) (w0:=w) (Q:=Post C w K) (g:=l.length-m) hok (by omega) (fun C' w' a' s' h1 h2 h3=>⟨C',s',h1,h2,h3⟩) hJ k listed s2 C2 w' a' p3 r4 (fun i h1 h2=>by
   cases hl:listed.getD i false with
   |true=>have:=(r6 i hl).1;omega
   |false=>rw [nP (by rw [r4.size];exact h2)];exact hl) (hs2.rep e1) F2
  rw [p1];exact key
 .have:unl m (Array.replicate (m+(l.length-m)) false)=m:=by
   unfold unl;have:((List.range m).filter fun i=>!(Array.replicate (m+(l.length-m)) false).getD i false)=List.range m:=List.filter_eq_self.2 fun i _=>by rw [aN];rfl
   rw [this];simp
  rw [this]
 .rw [aN]at hl;cases hl
end
section
variable {P:Program} {T:List TI} {ops:List Oper} {s s1:St} {d:Option Nat} {ty:Nat} {pos:String} {af:Array Edge} {gu:Option (Nat×Bool)} {r:List Oper} {N:List (Option Nat×YldX)->Prop} {pd:List (Option Nat×YldX)}
def DX (P:Program)(ops l:List Oper)(s:St)(pd:List (Option Nat×YldX))(N:List (Option Nat×YldX)->Prop):Prop:=ADX P ops l s (fun L _=>N (pd++L))
theorem ab7 {ops:List Oper}:∀(l:List Oper) (s:St) {K K':List (Option Nat×YldX)->St->Prop},(∀ L t,K' L t->K L t)->ADX P ops l s K'->ADX P ops l s K
 | [],s,K,K',hk,g=>hk [] s g
 |o::r,s,K,K',hk,⟨x,s1,g1,g2,g3⟩=>⟨x,s1,g1,g2,ab7 r s1 (fun L t hK=>hk _ t hK) g3⟩
theorem aQ {id:Nat}{l:List Oper}{s:St}{K:Exit->St->Prop}(m:Nat)(d1:List Nat)(J:St)(hm:P.follows .mixedOrders=true)(hok:drawOk l m=true)
 (h:DX P l (l.take m) s [] (fun L=>okY l m d1 L=true/\AllS (Left P l m J d1 s L) ((subs (flts m d1 L)).filter (clsd l d1)))) (hJ:AOps P ⟨l⟩ (l.drop m) J (fun s'=>K .normal s')):AT P (.region id ⟨l⟩ true) s K:=at_drawnX m d1 J hm hok h hJ
theorem pT (h:N pd):DX P ops [] s pd N:=by
 show N (pd++[]);rw [List.append_nil];exact h
theorem dx_val {o:Oper}{x:V}(hy:OYield P ops o s x)(hp:s.put o.dst x=some s1)(h:DX P ops r s1 (pd++[(o.dst,.val x)]) N):DX P ops (o::r) s pd N:=
 ⟨.val x,s1,hy,hp,ab7 r s1 (fun L t hK=>by rw [List.append_assoc]at hK;exact hK) h⟩
theorem dx_new {o:Oper}{p:PendX}(hg:gd ops (s.only (gSlots ops o)) o.guard=some true)(hd:o.dst=some p.d)(h0:ONewX P (s.only (opSlots o)) o p)(hp:s.put o.dst .junk=some s1)(h:DX P ops r s1 (pd++[(o.dst,.new p)]) N):DX P ops (o::r) s pd N:=
 ⟨.new p,s1,⟨hg,hd,h0⟩,hp,ab7 r s1 (fun L t hK=>by rw [List.append_assoc]at hK;exact hK) h⟩
theorem gG {o:Oper}(h:DX P ops r s (pd++[(none,.skip)]) N):DX P ops (o::r) s pd N:=
 ⟨.skip,s,trivial,rfl,ab7 r s (fun L t hK=>by rw [List.append_assoc]at hK;exact hK) h⟩
def dstepX (T:List TI)(ops:List Oper)(s:St)(o:Oper):Option (St×V):=
 match gd ops (s.only (gSlots ops o)) o.guard with
 |some true=>(match pstep T (s.only (opSlots o)) o.op with
  |some v=>(match s.put o.dst v with |some s'=>some (s',v)|none=>none)
  |none=>none)
 |some false=>(match s.put o.dst (.tup [])with |some s'=>some (s',.tup [])|none=>none)
 |none=>none
theorem xv {op:Op}{x:V}(hg:gd ops (s.only (gSlots ops ⟨d,op,ty,pos,af,gu⟩)) gu=some true)
 (hx:OpVal P (s.only (opSlots ⟨d,op,ty,pos,af,gu⟩)) op x) (hp:s.put d x=some s1) (h:DX P ops r s1 (pd++[(d,.val x)]) N):DX P ops (⟨d,op,ty,pos,af,gu⟩::r) s pd N:=
 dx_val (.inl ⟨hg,orun_val hx⟩) hp h
theorem xx {o:Oper}{s':St}{x:V}(hT:TabOK P T)(hx:dstepX T ops s o=some (s',x))(h:DX P ops r s' (pd++[(o.dst,.val x)]) N):DX P ops (o::r) s pd N:=by
 unfold dstepX at hx;split at hx
 .rename_i hg;split at hx
  .rename_i v hv;split at hx
   .rename_i s2 hs2;simp only [Option.some.injEq,Prod.mk.injEq]at hx;obtain ⟨rfl,rfl⟩:=hx;obtain ⟨d,op,ty,pos,af,gu⟩:=o;exact xv hg (uA hT hv) hs2 h
   .cases hx
  .simp at hx
 .rename_i hg;split at hx
  .rename_i s2 hs2;simp only [Option.some.injEq,Prod.mk.injEq]at hx;obtain ⟨rfl,rfl⟩:=hx;exact dx_val (.inr ⟨hg,rfl⟩) hs2 h
  .cases hx
 .simp at hx
section
variable {l:List Oper} {g:Nat} {p:Prop} [Decidable p] {R:Type} {e1 e2:Option R} {q:R}
end
theorem x_call {f : FuncId} {args : List Operand} {args' : List V} {x : V} {tys : Array TypeId} 
 (hc:FC P f args' [] 12 (fun y _=>y=x)) (hg:gd ops (s.only (gSlots ops ⟨d,.call ⟨.value (.func f),⟨args⟩,tys⟩,ty,pos,af,gu⟩)) gu=some true)
 (hv:V.rlL (f0 s) (evL (s.only (opSlots ⟨d,.call ⟨.value (.func f),⟨args⟩,tys⟩,ty,pos,af,gu⟩)) args)=args') (hx:x.rl f01=x) (hp:s.put d x=some s1) (h:DX P ops r s1 (pd++[(d,.val x)]) N):
 DX P ops (⟨d,.call ⟨.value (.func f),⟨args⟩,tys⟩,ty,pos,af,gu⟩::r) s pd N:=by
 exact dx_val (zE hc hg hv hx) hp h
end
theorem rl_ext {f:Nat->Nat}{C C1 C2:Ctx}{w w1 w2:World}(R:Rl f C C1 w w1)(E:Ext C1 C2 w1 w2):Rl f C C2 w w2:=
 ⟨fun l hl=>Nat.lt_of_lt_of_le (R.lt l hl) E.nx,fun l hl h=>R.lv l hl (E.lv _ (R.lt l hl) h),fun l b hl h hb=>by
  have h1:=R.reg l b hl (E.lv _ (R.lt l hl) h) hb;have h2:=E.reg _ b (R.lt l hl) h h1.1;exact ⟨h2.1,h2.2.trans h1.2⟩⟩
theorem onewX_call {P:Program}{s:St}{f:FuncId}{args:List Operand}{args':List V}{tys:Array TypeId}{ty:Nat}{pos:String}{af:Array Edge}{gu:Option (Nat×Bool)}{R:V->List (Nat×HB)->Prop}{p:PendX}
 (hc:FC P f args' [] 12 R) (hv:RdL s (evL s args) args')
 (hk:∀ x h2,R x h2->∃ js:List Nat,distinct js=true/\js.map (hget h2)=p.hbs.map some/\(∀ hb∈p.hbs,V.rlR f01 hb.rows=hb.rows)/\∀ n,x.rnA (upJ js n)=p.y n):
 ONewX P s ⟨some p.d,.call ⟨.value (.func f),⟨args⟩,tys⟩,ty,pos,af,gu⟩ p:=by
 intro C w a hs K Q hK;obtain ⟨⟨fn,h1,h2,h3⟩,hcall⟩:=hc;have e:(execOp a.eval ⟨some p.d,.call ⟨.value (.func f),⟨args⟩,tys⟩,ty,pos,af,gu⟩).run P w=.ok (.enter f ⟨args.map a.eval⟩) w:=by
  simp only [execOp,resolve,Act.eval,Deferred.ofValue,Sem.run_bind,Sem.run_pure,Result.andThen_ok,invoke,callFunc,run_program,h1,h2,h3];simp
 unfold Oper.wp;rw [e,Oper.upon_enter];refine (hcall (C.callee (·<w.heap.size)) w ⟨args.map a.eval⟩ rfl (pR C w (fun b h=>h) hs.heap.tabC) (av3 hs hv (nM hs args))).mono ?_;rintro e w' ⟨v,C2,x,h2,rfl,e2,e3,F,e5⟩;obtain ⟨js,hdj,hrows,hrl,hy⟩:=hk x h2 e5;obtain ⟨b1,b2⟩:=aq9 hs F e2;have A:=fL F;have R:=back_rl hs.heap F e2;have hlen:js.length=p.hbs.length:=by simpa using congrArg List.length hrows
 have hget':∀(i:Nat) j hb,js[i]? =some j->p.hbs[i]? =some hb->hget h2 j=some hb:=fun i j hb h1 h3=>by
  have:=congrArg (fun l=>l[i]?) hrows;simpa [h1,h3]using this
 have hsome:∀ j∈js,(hget h2 j).isSome=true:=fun j hj=>by
  obtain⟨i,hi⟩:=List.getElem?_of_mem hj;have hil:=(List.getElem?_eq_some_iff.1 hi).1;rw [hget' i j _ hi (List.getElem?_eq_getElem (by omega))];rfl
 have hnew:∀ j b,Has C2 j b->w.heap.size<=b:=fun j b hb=>by
  rcases F.own b hb.own with h|h
  .exact (ao8 h).elim
  .exact h
 refine hK (C.back C2 w) w' v (locs C2 js) ⟨by simp [locs,hlen],fun i q hb hp hhb=>?_,vJ e2 js hdj hsome,fun C1 w1 n E1 hn hl=>?_⟩ (fun b ⟨q,hq,hb⟩=>?_) ⟨Nat.le_refl _,fun _ L _ h=>⟨L,h,.inl rfl⟩,fun _ _ h=>h,fun l b _ hl hb=>⟨.inl hb,A.2 b (hs.heap.regs l b hl hb)⟩⟩ b2 b1.heap rfl (fun _ h=>h)
 .simp only [locs,List.getElem?_map,Option.map_eq_some_iff]at hp;obtain ⟨j,hj,rfl⟩:=hp;have hg:=hget' i j hb hj hhb;obtain ⟨L,f1,f2,f3,f4⟩:=e2.ent j hb hg;rw [f1];have key:∀ b,Has C2 j b->Untr (C.back C2 w) b:=fun b hb=>by
   have hn:=hnew j b hb;refine ⟨fun ho=>?_,fun l hl hr=>?_⟩
   .have h1:Own C b:=by
     rcases ho with h|⟨l,k1,k2,k3⟩|h
     .exact .inl h
     .rcases k3 with k3|⟨e,_⟩
      .exact .inr (.inl ⟨l,k1,k2,k3⟩)
      .omega
     .exact .inr (.inr h)
    have:=hs.heap.ownlt h1;omega
   .rcases hr with hr|⟨rfl,hr,_⟩
    .have:=hs.heap.regs l b hl hr;omega
    .exact e2.has_reg hb e2.zero.2.1 hr
  have hr:=hrl hb (List.mem_of_getElem? hhb);refine ⟨⟨?_,f3,fun b hbk=>key b (.inl ⟨L,f1,hbk⟩),e2.sub.dp j hb L hg f1,e2.sub.nd j,fun b hb'=>⟨key b (.inr hb'),fun e=>e2.sub.root j b j L hb' f1 e,e2.sub.lt j b hb'⟩⟩,f2⟩;have hrow:∀(i:Nat) row,hb.rows[i]? =some row->V.rlL f01 row=row:=fun i row hi=>by
   have:=congrArg (fun l=>l[i]?) hr;simp only [zP,List.getElem?_map,hi,Option.map_some,Option.some.injEq]at this;first|exact this|(rw [rlL_eq];exact this)
  refine f4.imp rfl id (fun _ _=>rfl) (fun b hbk h5=>?_) fun ents he=>⟨ents,he,?_⟩
  .obtain ⟨vals,g5⟩:=h5;refine ⟨vals,fun i row hi=>⟨(g5 i row hi).1,(g5 i row hi).2.1,?_⟩⟩;have:=RepL.rl R (g5 i row hi).2.2;rw [hrow i row hi]at this;exact this
  .intro vs hv;have:=RepL.rl R hv;rw [hrow 0 ents (by rw [he];rfl)]at this;exact this
 .rw [<- hy n];refine Rep.rnA (rl_ext R E1) (fun u k hk hu=>?_) e3;unfold upJ at hk;simp only [Option.map_eq_some_iff]at hk;obtain ⟨i,hi,rfl⟩:=hk;have hj:=cZ hi;have hil:=(List.getElem?_eq_some_iff.1 hj).1;have hll:(locs C2 js).length=js.length:=by simp [locs]
  refine⟨by omega,fun L' hL'=>?_⟩;have:=hl i ((C2.loc u).getD ⟨none,0,0,0⟩,C2.sub u) (by simp only [locs,List.getElem?_map,hj,Option.map_some]);rw [this]at hL';simp only [Option.some.injEq]at hL';obtain ⟨hb',e⟩:=Option.isSome_iff_exists.1 (hsome u (List.mem_of_getElem? hj));obtain ⟨L,e1,_⟩:=e2.ent u hb' e;rw [e1]at hL';exact ⟨L,e1,.inl hL'.symm⟩
 .obtain ⟨j,hj,rfl⟩:=List.mem_map.1 hq;obtain ⟨hb',e⟩:=Option.isSome_iff_exists.1 (hsome j hj);exact hnew j b (ag9 e2 e hb)
section
variable {P:Program} {ops:List Oper} {s s1:St} {ty:Nat} {pos:String} {af:Array Edge} {gu:Option (Nat×Bool)} {r:List Oper} {N:List (Option Nat×YldX)->Prop} {pd:List (Option Nat×YldX)} {f:FuncId} {args:List Operand} {args':List V} {tys:Array TypeId} {x:Nat}
theorem x_o1 {y:Nat->V}{b1:HB}(hc:FC P f args' [] 12 (fun x h2=>∃ j,x=y j/\hget h2 j=some b1))(hg:gd ops (s.only (gSlots ops ⟨some x,.call ⟨.value (.func f),⟨args⟩,tys⟩,ty,pos,af,gu⟩)) gu=some true)
 (hv:RdL (s.only (opSlots ⟨some x,.call ⟨.value (.func f),⟨args⟩,tys⟩,ty,pos,af,gu⟩)) (evL (s.only (opSlots ⟨some x,.call ⟨.value (.func f),⟨args⟩,tys⟩,ty,pos,af,gu⟩)) args) args') (h1:V.rlR f01 b1.rows=b1.rows) (hy:∀ n j,(y j).rnA (upJ [j] n)=y n)
 (hp:s.put (some x) .junk=some s1) (h:DX P ops r s1 (pd++[(some x,.new ⟨x,[b1],y⟩)]) N):DX P ops (⟨some x,.call ⟨.value (.func f),⟨args⟩,tys⟩,ty,pos,af,gu⟩::r) s pd N:=
 dx_new hg rfl (onewX_call (p:=⟨x,[b1],y⟩) hc hv fun x h2 ⟨j,e,hj⟩=>⟨[j],rfl,by simp [hj],fun hb hm=>(by simp at hm;subst hm;exact h1),fun n=>by rw [e];exact hy n j⟩) hp h
def kindV (p:Pend)(n:Nat):V:=match p.k with
 |.ptr=>.ptr n 1 0 0
 |.hsl=>.hsl n 0 p.rows.length
 |.mp=>.mp n 1
theorem av0 {P:Program}{s:St}{o:Oper}{p:Pend}(h:ONew P s o p):ONewX P s o ⟨p.d,[⟨p.sz,p.rows⟩],kindV p⟩:=fun C w a hs K Q hK=>
 h C w a hs K Q fun C' w' v L q1 q2 q3 q4 r2 r3 r4 r5 r6=>by
  obtain⟨⟨h1,h2⟩,h3,h4⟩:=q1;refine hK C' w' v [(L,[])] ⟨rfl,fun i q hb hi hh=>?_,⟨fun q hq=>by simp at hq,trivial⟩,fun C1 w1 n E hn hl=>?_⟩ (fun b ⟨q,hq,hb⟩=>?_) r2 r3 r4 r5 r6
  .cases i with
   |zero=>simp at hi hh;subst hi;subst hh;exact⟨⟨h1,h3,h4,h2,.nil,fun b hb=>by cases hb⟩,q2⟩
   |succ i=>simp at hi
  .have hL:=hl 0 (L,[]) rfl;rw [Nat.add_zero]at hL;have hn':n<C1.nx:=by simp at hn;omega
   obtain⟨d,k,sz,rows⟩:=p;cases k with
   |ptr=>
    obtain⟨q4,b,q5,q7,q6⟩:=q3;refine .ptr hn' fun L' hL'=>?_;rw [hL]at hL';simp only [Option.some.injEq]at hL';subst hL';have h3':L.n=rows.length:=h3;have q4':rows.length=1:=q4;exact ⟨by omega,fun _=>⟨b,q5,q7,by rw [q6];simp⟩⟩
   |hsl=>
    refine .hsl hn' fun L' hL'=>?_;rw [hL]at hL';simp only [Option.some.injEq]at hL';subst hL';have h3':L.n=rows.length:=h3;exact ⟨by omega,fun _=>q3⟩
   |mp=>
    obtain⟨q4,b,q5,q7,q6⟩:=q3;refine .mp hn' fun L' hL'=>?_;rw [hL]at hL';simp only [Option.some.injEq]at hL';subst hL';have h3':L.n=rows.length:=h3;have q4':rows.length=1:=q4;exact ⟨by omega,fun _=>.inr ⟨rfl,b,q5,q7,q6⟩⟩
  .simp at hq;subst hq;rcases hb with hb|hb
   .exact q4 b hb
   .cases hb
theorem gX {Φ:List Nat->Prop}{l l':List (List Nat)}(e:l=l')(h:AllS Φ l'):AllS Φ l:=e ▸ h
theorem dO {Φ:List Nat->Prop}:AllS Φ []:=trivial
theorem t6 {Φ:List Nat->Prop}{F:List Nat}{r:List (List Nat)}(h:Φ F)(t:AllS Φ r):AllS Φ (F::r):=⟨h,t⟩
theorem aperm_le {P:Program}{ops:List Oper}{m:Nat}{J s s':St}(h:Le s s'):∀{f:Nat} {listed:Array Bool},APerm P ops m J f listed s'->APerm P ops m J f listed s
 |0,_,⟨h1,h2⟩=>⟨h1,h.trans h2⟩
 |_+1,_,⟨h1,h2⟩=>⟨h1,fun i hi=>by
  obtain⟨k1,o,k2,k3⟩:=h2 i hi;exact ⟨k1,o,k2,s4 h k3⟩⟩
def envF:List (Nat×V)->Option (List (Nat×V))
 | []=>some []
 |(d,v)::r=>match v.force,envF r with
  |some v',some r'=>some ((d,v')::r')
  |_,_=>none
def heapF:List (Nat×HB)->Option (List (Nat×HB))
 | []=>some []
 |(u,⟨sz,rows⟩)::r=>match heapF r with
  |some r'=>some ((u,⟨sz,rows⟩)::r')
  |none=>none
def forceSt:St->Option St
 |⟨env,heap,nx,n,lv⟩=>match envF env,heapF heap with
  |some env',some heap'=>some ⟨env',heap',nx,n,lv⟩
  |_,_=>none
theorem envF_eq:∀{l l':List (Nat×V)},envF l=some l'->l=l'
 | [],l',h=>by simp [envF]at h;exact h.symm
 |(d,v)::r,l',h=>by
  simp only [envF]at h;split at h
  .rename_i v' r' h1 h2;simp only [Option.some.injEq]at h;subst h;rw [<- envF_eq h2,<- nO _ _ h1]
  .cases h
theorem heapF_eq:∀{l l':List (Nat×HB)},heapF l=some l'->l=l'
 | [],l',h=>by simp [heapF]at h;exact h.symm
 |(u,⟨sz,rows⟩)::r,l',h=>by
  simp only [heapF]at h;split at h
  .rename_i r' h2;simp only [Option.some.injEq]at h;subst h;rw [<- heapF_eq h2]
  .cases h
theorem forceSt_eq {s s':St}(h:forceSt s=some s'):s=s':=by
 obtain⟨env,heap,nx,n,lv⟩:=s;simp only [forceSt]at h;split at h
 .rename_i e' h' h1 h2;simp only [Option.some.injEq]at h;rw [<- h,envF_eq h1,heapF_eq h2]
 .cases h
theorem w4 {P:Program}{ops:List Oper}{m:Nat}{J s0:St}{d1 F:List Nat}{L:List (Option Nat×YldX)}(k:Nat){s2:St}(h1:unl m (larr ops.length (lsel d1 F))=k)(h2:forceSt (({ s0 with env:=selE (lsel d1 F) 0 L s0.env }:St).adoptsX (selP (lsel d1 F) 0 L))=some s2)(h3:APerm P ops m J k (larr ops.length (lsel d1 F)) s2):Left P ops m J d1 s0 L F:=⟨k,s2,h1,forceSt_eq h2,h3⟩
section
variable {P:Program} {T:List TI} {ops:List Oper} {s s1:St} {ty:Nat} {pos:String} {af:Array Edge} {gu:Option (Nat×Bool)} {r:List Oper} {N:List (Option Nat×YldX)->Prop} {pd:List (Option Nat×YldX)}
theorem x_alloc {t x sz bts:Nat}{kd:TK}{z:List V}{ag:Bool}(hT:TabOK P T)(hg:gd ops (s.only (gSlots ops ⟨some x,.alloc t,ty,pos,af,gu⟩)) gu=some true)(ht:T[t]? =some ⟨kd,sz,bts,z,ag⟩)(hz:z.isEmpty=false)(hsz:Nat.beq z.length sz=true)
 (hp:s.put (some x) .junk=some s1) (h:DX P ops r s1 (pd++[(some x,.new ⟨x,[⟨sz,[z]⟩],fun n=>.ptr n 1 0 0⟩)]) N):DX P ops (⟨some x,.alloc t,ty,pos,af,gu⟩::r) s pd N:=by
 rw [Nat.beq_eq]at hsz;have hnz:sz≠0:=by intro e;rw [<- hsz,List.length_eq_zero_iff]at e;simp [e]at hz
 refine dx_new (p:=⟨x,[⟨sz,[z]⟩],fun n=>.ptr n 1 0 0⟩) hg rfl (av0 (p:=⟨x,.ptr,sz,[z]⟩) (onew_of (cap:=1) (as1 (xW hT ht hz)) hnz fun C w a hs=>?_)) hp h;obtain ⟨zv,hz1,hz2⟩:=hT.zero ht (by intro e;dsimp only at e;simp [e]at hz);dsimp only at hz2;have hl:zv.cells.size=sz:=by rw [<- hsz,<- hz2];simp
 refine⟨_,zv.cells,t,by simp only [execOp,Instr.alloc,Sem.run_bind,hz1,Result.andThen_ok];rfl,by simpa using hl,by simp,?_,rfl,w.heap.size,rfl,hnz,rfl⟩;have:=yT (C:=C) (w:=w) (sL C w zv.cells.toList);rw [hz2,hsz]at this;exact this
end
end
end Go.Abs

namespace Go.Abs
section
variable {C:Ctx} {w:World} {h:List (Nat×HB)}
end
section
variable {P:Program} {T:List TI} {s:St}
end
section
variable {C:Ctx} {w:World} {h:List (Nat×HB)}
end
section
variable {P:Program} {T:List TI} {s s':St}
theorem rlR_consG {f:Nat->Nat}{x x':List V}{xs xs':List (List V)}(h:V.rlL f x=x')(t:V.rlR f xs=xs'):V.rlR f (x::xs)=x'::xs':=by simp only [V.rlR,h,t]
end
section
variable {P:Program} {ops:List Oper} {f:FuncId} {args:List Operand} {args':List V} {x:V} {tys:Array TypeId} {d:Option Nat} {ty:Nat} {pos:String} {af:Array Edge} {gu:Option (Nat×Bool)} {s s1:St} {r:List Oper}
end
end Go.Abs

namespace Go.Abs
theorem j5 {α:Type}{a b:α}(h:some a=some b):a=b:=Option.some.inj h
section
variable {P:Program} {s:St} {K:Exit->St->Prop}
theorem nL {σ R:Type}{c:Code}(I:σ->St)(L:(σ->Option R)->σ->Option R){q:R}(k0:Nat)(v0:σ)(hF:itr L k0 v0=some q)(d0:Le s (I v0))
 (round:∀(go:σ->Option R) v,L go v=some q->AT P c (I v) (loopL I (fun v=>go v=some q) K)):AT P (.loop c) s K:=
 cl_loop I L k0 v0 hF d0 fun k v h=>round (itr L k) v h
theorem I9 {T0 R:Type}{c:Code}(I:T0->St)(L:(T0->Option R)->T0->Option R){q:R}(k0:Nat)(y0:T0)(hF:itr L k0 y0=some q)(d0:Le s (I y0))
 (round:∀(go:T0->Option R) x0,L go x0=some q->AT P c (I x0) (loopL I (fun v=>go v=some q) K)):AT P (.loop c) s K:=
 nL I L k0 y0 hF d0 fun go v h=>match v,h with |x0,h=>round go x0 h
theorem B6 {T0:Type}{x y:Code}(I:T0->St)(Φ:T0->Prop)(h:AT P x s (thenK (fun s'=>∃ v,Φ v/\Le s' (I v)) K))(h2:∀ x0,Φ x0->AT P y (I x0) K):AT P x s (thenK (fun s'=>AT P y s' K) K):=
 ae0 I Φ h fun v hv=>match v,hv with |x0,hv=>h2 x0 hv
theorem z9 {T0 T1 R:Type}{c:Code}(I:T0->T1->St)(L:(T0×T1->Option R)->T0×T1->Option R){q:R}(k0:Nat)(y0:T0)(y1:T1)(hF:itr L k0 (y0,y1)=some q)(d0:Le s (I y0 y1))
 (round:∀(go:T0×T1->Option R) x0 x1,L go (x0,x1)=some q->AT P c (I x0 x1) (loopL (fun v=>match v with |(x0,x1)=>I x0 x1) (fun v=>go v=some q) K)):AT P (.loop c) s K:=
 nL (fun v=>match v with |(x0,x1)=>I x0 x1) L k0 (y0,y1) hF d0 fun go v h=>match v,h with |⟨x0,x1⟩,h=>round go x0 x1 h
theorem ar3 {T0 T1:Type}{x y:Code}(I:T0->T1->St)(Φ:T0->T1->Prop)(h:AT P x s (thenK (fun s'=>∃ v,(fun v=>match v with |(x0,x1)=>Φ x0 x1) v/\Le s' ((fun v=>match v with |(x0,x1)=>I x0 x1) v)) K))(h2:∀ x0 x1,Φ x0 x1->AT P y (I x0 x1) K):AT P x s (thenK (fun s'=>AT P y s' K) K):=
 ae0 (fun v=>match v with |(x0,x1)=>I x0 x1) (fun v=>match v with |(x0,x1)=>Φ x0 x1) h fun v hv=>match v,hv with |⟨x0,x1⟩,hv=>h2 x0 x1 hv
theorem gK {T0 T1 T2 R:Type}{c:Code}(I:T0->T1->T2->St)(L:(T0×T1×T2->Option R)->T0×T1×T2->Option R){q:R}(k0:Nat)(y0:T0)(y1:T1)(y2:T2)(hF:itr L k0 (y0,y1,y2)=some q)(d0:Le s (I y0 y1 y2))
 (round:∀(go:T0×T1×T2->Option R) x0 x1 x2,L go (x0,x1,x2)=some q->AT P c (I x0 x1 x2) (loopL (fun v=>match v with |(x0,x1,x2)=>I x0 x1 x2) (fun v=>go v=some q) K)):AT P (.loop c) s K:=
 nL (fun v=>match v with |(x0,x1,x2)=>I x0 x1 x2) L k0 (y0,y1,y2) hF d0 fun go v h=>match v,h with |⟨x0,x1,x2⟩,h=>round go x0 x1 x2 h
theorem cl_loop4 {T0 T1 T2 T3 R:Type}{c:Code}(I:T0->T1->T2->T3->St)(L:(T0×T1×T2×T3->Option R)->T0×T1×T2×T3->Option R){q:R}(k0:Nat)(y0:T0)(y1:T1)(y2:T2)(y3:T3)(hF:itr L k0 (y0,y1,y2,y3)=some q)(d0:Le s (I y0 y1 y2 y3))
 (round:∀(go:T0×T1×T2×T3->Option R) x0 x1 x2 x3,L go (x0,x1,x2,x3)=some q->AT P c (I x0 x1 x2 x3) (loopL (fun v=>match v with |(x0,x1,x2,x3)=>I x0 x1 x2 x3) (fun v=>go v=some q) K)):AT P (.loop c) s K:=
 nL (fun v=>match v with |(x0,x1,x2,x3)=>I x0 x1 x2 x3) L k0 (y0,y1,y2,y3) hF d0 fun go v h=>match v,h with |⟨x0,x1,x2,x3⟩,h=>round go x0 x1 x2 x3 h
theorem cl_midn5 {T0 T1 T2 T3 T4:Type}{x y:Code}(I:T0->T1->T2->T3->T4->St)(Φ:T0->T1->T2->T3->T4->Prop)(h:AT P x s (thenK (fun s'=>∃ v,(fun v=>match v with |(x0,x1,x2,x3,x4)=>Φ x0 x1 x2 x3 x4) v/\Le s' ((fun v=>match v with |(x0,x1,x2,x3,x4)=>I x0 x1 x2 x3 x4) v)) K))(h2:∀ x0 x1 x2 x3 x4,Φ x0 x1 x2 x3 x4->AT P y (I x0 x1 x2 x3 x4) K):AT P x s (thenK (fun s'=>AT P y s' K) K):=
 ae0 (fun v=>match v with |(x0,x1,x2,x3,x4)=>I x0 x1 x2 x3 x4) (fun v=>match v with |(x0,x1,x2,x3,x4)=>Φ x0 x1 x2 x3 x4) h fun v hv=>match v,hv with |⟨x0,x1,x2,x3,x4⟩,hv=>h2 x0 x1 x2 x3 x4 hv
theorem ar2 {T0 T1 T2 T3 T4 T5 R:Type}{c:Code}(I:T0->T1->T2->T3->T4->T5->St)(L:(T0×T1×T2×T3×T4×T5->Option R)->T0×T1×T2×T3×T4×T5->Option R){q:R}(k0:Nat)(y0:T0)(y1:T1)(y2:T2)(y3:T3)(y4:T4)(y5:T5)(hF:itr L k0 (y0,y1,y2,y3,y4,y5)=some q)(d0:Le s (I y0 y1 y2 y3 y4 y5))
 (round:∀(go:T0×T1×T2×T3×T4×T5->Option R) x0 x1 x2 x3 x4 x5,L go (x0,x1,x2,x3,x4,x5)=some q->AT P c (I x0 x1 x2 x3 x4 x5) (loopL (fun v=>match v with |(x0,x1,x2,x3,x4,x5)=>I x0 x1 x2 x3 x4 x5) (fun v=>go v=some q) K)):AT P (.loop c) s K:=
 nL (fun v=>match v with |(x0,x1,x2,x3,x4,x5)=>I x0 x1 x2 x3 x4 x5) L k0 (y0,y1,y2,y3,y4,y5) hF d0 fun go v h=>match v,h with |⟨x0,x1,x2,x3,x4,x5⟩,h=>round go x0 x1 x2 x3 x4 x5 h
theorem ab9 {T0 T1 T2 T3 T4 T5:Type}{x y:Code}(I:T0->T1->T2->T3->T4->T5->St)(Φ:T0->T1->T2->T3->T4->T5->Prop)(h:AT P x s (thenK (fun s'=>∃ v,(fun v=>match v with |(x0,x1,x2,x3,x4,x5)=>Φ x0 x1 x2 x3 x4 x5) v/\Le s' ((fun v=>match v with |(x0,x1,x2,x3,x4,x5)=>I x0 x1 x2 x3 x4 x5) v)) K))(h2:∀ x0 x1 x2 x3 x4 x5,Φ x0 x1 x2 x3 x4 x5->AT P y (I x0 x1 x2 x3 x4 x5) K):AT P x s (thenK (fun s'=>AT P y s' K) K):=
 ae0 (fun v=>match v with |(x0,x1,x2,x3,x4,x5)=>I x0 x1 x2 x3 x4 x5) (fun v=>match v with |(x0,x1,x2,x3,x4,x5)=>Φ x0 x1 x2 x3 x4 x5) h fun v hv=>match v,hv with |⟨x0,x1,x2,x3,x4,x5⟩,hv=>h2 x0 x1 x2 x3 x4 x5 hv
theorem cl_loop7 {T0 T1 T2 T3 T4 T5 T6 R:Type}{c:Code}(I:T0->T1->T2->T3->T4->T5->T6->St)(L:(T0×T1×T2×T3×T4×T5×T6->Option R)->T0×T1×T2×T3×T4×T5×T6->Option R){q:R}(k0:Nat)(y0:T0)(y1:T1)(y2:T2)(y3:T3)(y4:T4)(y5:T5)(y6:T6)(hF:itr L k0 (y0,y1,y2,y3,y4,y5,y6)=some q)(d0:Le s (I y0 y1 y2 y3 y4 y5 y6))
 (round:∀(go:T0×T1×T2×T3×T4×T5×T6->Option R) x0 x1 x2 x3 x4 x5 x6,L go (x0,x1,x2,x3,x4,x5,x6)=some q->AT P c (I x0 x1 x2 x3 x4 x5 x6) (loopL (fun v=>match v with |(x0,x1,x2,x3,x4,x5,x6)=>I x0 x1 x2 x3 x4 x5 x6) (fun v=>go v=some q) K)):AT P (.loop c) s K:=
 nL (fun v=>match v with |(x0,x1,x2,x3,x4,x5,x6)=>I x0 x1 x2 x3 x4 x5 x6) L k0 (y0,y1,y2,y3,y4,y5,y6) hF d0 fun go v h=>match v,h with |⟨x0,x1,x2,x3,x4,x5,x6⟩,h=>round go x0 x1 x2 x3 x4 x5 x6 h
theorem vF {T0 T1 T2 T3 T4 T5 T6:Type}{x y:Code}(I:T0->T1->T2->T3->T4->T5->T6->St)(Φ:T0->T1->T2->T3->T4->T5->T6->Prop)(h:AT P x s (thenK (fun s'=>∃ v,(fun v=>match v with |(x0,x1,x2,x3,x4,x5,x6)=>Φ x0 x1 x2 x3 x4 x5 x6) v/\Le s' ((fun v=>match v with |(x0,x1,x2,x3,x4,x5,x6)=>I x0 x1 x2 x3 x4 x5 x6) v)) K))(h2:∀ x0 x1 x2 x3 x4 x5 x6,Φ x0 x1 x2 x3 x4 x5 x6->AT P y (I x0 x1 x2 x3 x4 x5 x6) K):AT P x s (thenK (fun s'=>AT P y s' K) K):=
 ae0 (fun v=>match v with |(x0,x1,x2,x3,x4,x5,x6)=>I x0 x1 x2 x3 x4 x5 x6) (fun v=>match v with |(x0,x1,x2,x3,x4,x5,x6)=>Φ x0 x1 x2 x3 x4 x5 x6) h fun v hv=>match v,hv with |⟨x0,x1,x2,x3,x4,x5,x6⟩,hv=>h2 x0 x1 x2 x3 x4 x5 x6 hv
theorem rU {T0 T1 T2 T3 T4 T5 T6 T7 R:Type}{c:Code}(I:T0->T1->T2->T3->T4->T5->T6->T7->St)(L:(T0×T1×T2×T3×T4×T5×T6×T7->Option R)->T0×T1×T2×T3×T4×T5×T6×T7->Option R){q:R}(k0:Nat)(y0:T0)(y1:T1)(y2:T2)(y3:T3)(y4:T4)(y5:T5)(y6:T6)(y7:T7)(hF:itr L k0 (y0,y1,y2,y3,y4,y5,y6,y7)=some q)(d0:Le s (I y0 y1 y2 y3 y4 y5 y6 y7))
 (round:∀(go:T0×T1×T2×T3×T4×T5×T6×T7->Option R) x0 x1 x2 x3 x4 x5 x6 x7,L go (x0,x1,x2,x3,x4,x5,x6,x7)=some q->AT P c (I x0 x1 x2 x3 x4 x5 x6 x7) (loopL (fun v=>match v with |(x0,x1,x2,x3,x4,x5,x6,x7)=>I x0 x1 x2 x3 x4 x5 x6 x7) (fun v=>go v=some q) K)):AT P (.loop c) s K:=
 nL (fun v=>match v with |(x0,x1,x2,x3,x4,x5,x6,x7)=>I x0 x1 x2 x3 x4 x5 x6 x7) L k0 (y0,y1,y2,y3,y4,y5,y6,y7) hF d0 fun go v h=>match v,h with |⟨x0,x1,x2,x3,x4,x5,x6,x7⟩,h=>round go x0 x1 x2 x3 x4 x5 x6 x7 h
end
end Go.Abs

namespace Go.Abs
def dst2 (n:Nat)(js:List Nat):Bool:=distinct js&&js.all (Nat.ble n)
theorem dst2_none {n:Nat}{js us:List Nat}(h:dst2 n js=true)(hn:us.length=n):∀ j∈js,us[j]? =none:=fun j hj=>by
 simp only [dst2,Bool.and_eq_true]at h;have:=List.all_eq_true.1 h.2 j hj;exact List.getElem?_eq_none (by rw [hn];exact Nat.le_of_ble_eq_true this)
theorem dst2_d {n:Nat}{js:List Nat}(h:dst2 n js=true):distinct js=true:=by
 simp only [dst2,Bool.and_eq_true]at h;exact h.1
def St.newL:St->Nat->List HB->Nat->St
 |⟨env,heap,_,n,lv⟩,nx,hbs,k=>⟨env,heapL nx hbs heap,nx+k,n,lv⟩
section
variable {P:Program} {s:St} {ops:Array Oper} {f:FuncId} {args:List Operand} {args':List V} {tys:Array TypeId} {d:Option Nat} {ty:Nat} {pos:String} {af:Array Edge} {gu:Option (Nat×Bool)} {r:List Oper} {K:St->Prop} {s1:St}
variable (us:List Nat) {bs0 bs cs cs0:List HB} {m nx:Nat} (hg:gd ops.toList s gu=some true)
 (hl:Nat.ble us.length 12=true) (hd:distinct us=true) (hm:Nat.beq us.length m=true) (hlen:(Nat.beq us.length bs.length&&Nat.beq us.length cs.length)=true) (hv:V.rnL (dn us) (evL s args)=args')
 (hu:us.map (hget s.heap)=bs0.map some) (hin:RnB (dn us) bs0 bs) (hout:RnB (us[·]?) cs cs0) (hnx:s.nx=nx)
include hg hl hd hm hlen hv hu hin hout hnx
end
end Go.Abs

namespace Go.Abs
section
variable {P:Program} {ops:List Oper} {f:FuncId} {args:List Operand} {args':List V} {x:V} {tys:Array TypeId} {d:Option Nat} {ty:Nat} {pos:String} {af:Array Edge} {gu:Option (Nat×Bool)} {s s1:St} {r:List Oper}
end
end Go.Abs

namespace Go.Abs
def V.kp (f:Nat->Nat):V->V
 |.hsl u i len=>.hsl u i len
 |.ptr u n i off=>.ptr u n i off
 |.mp u k=>.mp u k
 |x=>x.rl f
def V.kpR (f:Nat->Nat)(rows:List (List V)):List (List V):=rows.map (·.map (V.kp f))
theorem Rep.kp {f:Nat->Nat}{C C':Ctx}{w w':World}(E:Rl f C C' w w')(hx:C.nx<=C'.nx)(hg:∀ u L',C'.loc u=some L'->C.loc u=some L'){v:Value}{x:V}(h:Rep C w v x):Rep C' w' v (x.kp f):=by
 cases x with
 |hsl u i len=>cases h with |hsl hu h=>exact .hsl (Nat.lt_of_lt_of_le hu hx) fun L' hL'=>h L' (hg u L' hL')
 |ptr u n i off=>cases h with |ptr hu h=>exact .ptr (Nat.lt_of_lt_of_le hu hx) fun L' hL'=>h L' (hg u L' hL')
 |mp u k=>cases h with |mp hu h=>exact .mp (Nat.lt_of_lt_of_le hu hx) fun L' hL'=>h L' (hg u L' hL')
 |_=>exact Rep.rl E h
theorem RepL.kp {f:Nat->Nat}{C C':Ctx}{w w':World}(E:Rl f C C' w w')(hx:C.nx<=C'.nx)(hg:∀ u L',C'.loc u=some L'->C.loc u=some L'):∀{vs:List Value} {xs:List V},RepL C w vs xs->RepL C' w' vs (xs.map (V.kp f))
 |_,_,.nil=>.nil
 |_,_,.cons h t=>.cons (Rep.kp E hx hg h) (RepL.kp E hx hg t)
theorem kp_of {f:Nat->Nat}{x:V}(h:x.rl f=x):x.kp f=x:=by
 cases x<;>first|rfl|exact h
theorem kpL_of {f:Nat->Nat}:∀{xs:List V},V.rlL f xs=xs->xs.map (V.kp f)=xs
 | [],_=>rfl
 |x::xs,h=>by
  simp only [V.rlL,List.cons.injEq]at h;rw [List.map_cons,kp_of h.1,kpL_of h.2]
theorem A2 {f:Nat->Nat}:∀{rows:List (List V)},V.rlR f rows=rows->V.kpR f rows=rows
 | [],_=>rfl
 |x::xs,h=>by
  simp only [V.rlR,List.cons.injEq]at h;unfold V.kpR;rw [List.map_cons,kpL_of h.1];exact congrArg (x::·) (A2 h.2)
theorem kpR_row {f:Nat->Nat}{rows:List (List V)}(h:V.kpR f rows=rows){i:Nat}{row:List V}(hi:rows[i]? =some row):row.map (V.kp f)=row:=by
 have:=congrArg (fun l=>l[i]?) h;simpa [V.kpR,List.getElem?_map,hi]using this
def Ctx.wide (C0:Ctx)(B:Nat->Prop):Ctx:={ C0 with reg:=fun l b=>C0.reg l b\/(l=0/\B b) }
section
variable {C0:Ctx} {w:World} {h:List (Nat×HB)} {B:Nat->Prop}
theorem wide_ext (hreg:∀ b,B b->b<w.heap.size):Ext C0 (C0.wide B) w w:=⟨Nat.le_refl _,fun _ L _ h=>⟨L,h,.inl rfl⟩,fun _ _ h=>h,fun _ _ _ _ h=>⟨.inl h,rfl⟩⟩
theorem wide_st (hs:HSt C0 w h)(hlt:∀ b,B b->b<w.heap.size)(hno:∀ j b,B b->¬ Has C0 j b)(h0:∀ l b,C0.reg l b->l=0):HSt (C0.wide B) w h where
 dom:=hs.dom
 ent u hb hu:=by
  obtain⟨L,e1,e2,e3,e4⟩:=hs.ent u hb hu;exact ⟨L,e1,e2,e3,e4.mono (wide_ext hlt) (fun _ _=>rfl)⟩
 lt:=hs.lt
 inj:=hs.inj
 own u L b l h1 h2 h3 h4:=by
  rcases h4 with h4|⟨_,h4⟩
  .exact hs.own u L b l h1 h2 h3 h4
  .exact hno u b h4 (.inl ⟨L,h1,h2⟩)
 regs l b h1 h2:=by
  rcases h2 with h2|⟨_,h2⟩
  .exact hs.regs l b h1 h2
  .exact hlt b h2
 lvs:=hs.lvs
 rdis l l' b h1 h2 h3 h4:=by
  have e1:l=0:=by
   rcases h3 with h3|⟨h3,_⟩
   .exact h0 l b h3
   .exact h3
  have e2:l'=0:=by
   rcases h4 with h4|⟨h4,_⟩
   .exact h0 l' b h4
   .exact h4
  rw [e1,e2]
 zero:=hs.zero
 two:=hs.two
 sub:=by
  refine⟨hs.sub.dp,hs.sub.s0,hs.sub.nd,hs.sub.lt,hs.sub.root,hs.sub.dis,fun u b l h1 h2 h3=>?_⟩;rcases h3 with h3|⟨_,h3⟩
  .exact hs.sub.reg u b l h1 h2 h3
  .exact hno u b h3 (.inr h1)
 tab b hb:=⟨.inl (hs.tab b hb).1,(hs.tab b hb).2⟩
def Ctx.narrow (C0 C2:Ctx)(K:Nat->Bool):Ctx:={ C2 with reg:=fun l b=>if l=0 then C0.reg 0 b else C2.reg l b,loc:=fun u=>if K u=true then C2.loc u else none,sub:=fun u=>if K u=true then C2.sub u else [] }
variable {C2:Ctx} {w':World} {h2:List (Nat×HB)} {K:Nat->Bool}
theorem eO (K:Nat->Bool):∀(h:List (Nat×HB)) (u:Nat),hget (h.filter fun p=>K p.1) u=if K u=true then hget h u else none
 | [],u=>by simp [hget]
 |(j,b)::r,u=>by
  have ih:=eO K r u;by_cases hk:K j=true
  .rw [List.filter_cons_of_pos (by simpa using hk)];simp only [hget,Bool.cond_eq_ite,Nat.beq_eq];by_cases e:u=j
   .subst e;rw [if_pos rfl,if_pos rfl,if_pos hk]
   .rw [if_neg e,if_neg e,ih]
  .rw [List.filter_cons_of_neg (by simpa using hk),ih];simp only [hget,Bool.cond_eq_ite,Nat.beq_eq];by_cases e:u=j
   .subst e;rw [if_neg hk,if_neg hk]
   .rw [if_neg e]
theorem X3 {u:Nat}{L:Loc}(h:(C0.narrow C2 K).loc u=some L):K u=true/\C2.loc u=some L:=by
 simp only [Ctx.narrow]at h;split at h
 .rename_i hk;exact⟨hk,h⟩
 .cases h
theorem gU {u b:Nat}(h:b∈(C0.narrow C2 K).sub u):K u=true/\b∈C2.sub u:=by
 simp only [Ctx.narrow]at h;split at h
 .rename_i hk;exact⟨hk,h⟩
 .cases h
theorem xU {b:Nat}(h:Own (C0.wide B) b)(hlv:∀ l,C0.lv l->l<=1):Own C0 b:=by
 rcases h with h|⟨l,h1,h2,_⟩|h
 .exact .inl h
 .have:=hlv l h2;omega
 .exact .inr (.inr h)
theorem narrow_own {b:Nat}(h:Own (C0.narrow C2 K) b):Own C2 b:=by
 rcases h with ⟨u,L,h1,h2⟩|⟨l,h1,h2,h3⟩|⟨u,h⟩
 .exact .inl ⟨u,L,(X3 h1).2,h2⟩
 .refine .inr (.inl ⟨l,h1,h2,?_⟩);simp only [Ctx.narrow]at h3
  rwa [if_neg (by omega)]at h3
 .exact .inr (.inr ⟨u,(gU h).2⟩)
theorem narrow_rl (hz:¬ C2.lv 2)(hn:2<C2.nx):Rl f01 C2 (C0.narrow C2 K) w' w':=by
 refine⟨fun l _=>?_,fun l _ hl=>?_,fun l b _ hl hb=>⟨?_,rfl⟩⟩
 .show f01 l<C2.nx;unfold f01;cases Nat.beq l 1<;>simp<;>omega
 .unfold f01 at hl;cases hb:Nat.beq l 1
  .rw [hb]at hl;exact absurd hl hz
  .rw [Nat.beq_eq]at hb;rw [hb]at hl |-;exact hl
 .unfold f01 at hl |-;cases hb1:Nat.beq l 1
  .rw [hb1]at hl;exact absurd hl hz
  .rw [Nat.beq_eq]at hb1;subst hb1;exact hb
theorem narrow_fr (F:Fr (C0.wide B) C2 w w')(hlv:∀ l,C0.lv l->l<=1):Fr C0 (C0.narrow C2 K) w w':=by
 refine⟨F.size,fun b hb ho=>F.keep b hb fun h=>ho (xU h hlv),fun b hb=>?_,fun b hb=>?_,fun b hb=>?_,F.os,F.out,fun u hu L' hL'=>F.low u hu L' (X3 hL').2⟩
 .rcases F.own b (narrow_own hb)with h|h
  .exact .inl (xU h hlv)
  .exact .inr h
 .simpa [Ctx.narrow]using hb
 .have hb':C2.reg 1 b:=by simpa [Ctx.narrow]using hb
  rcases F.r1 b hb' with h|h|h
  .rcases h with h|⟨e,_⟩
   .exact .inl h
   .omega
  .exact .inr (.inl (xU h hlv))
  .exact .inr (.inr h)
theorem ai1 (hs:HSt C0 w h){b:Nat}(ho:Own C0 b\/w.heap.size<=b){l:Nat}(hl:l<=1):¬ C0.reg l b:=fun hr=>by
 have hlv:C0.lv l:=zN hs hl;rcases ho with ho|ho
 .rcases ho with ⟨u,L,h1,h2⟩|⟨l',h1,h2,h3⟩|⟨u,h1⟩
  .exact hs.own u L b l h1 h2 hlv hr
  .have:=hs.rdis l l' b hlv h2 hr h3;omega
  .exact hs.sub.reg u b l h1 hlv hr
 .have:=hs.regs l b hlv hr;omega
theorem narrow_st (hs:HSt C0 w h)(hlv:∀ l,C0.lv l->l<=1)(F:Fr (C0.wide B) C2 w w')(hst:HSt C2 w' h2)(hrl:∀ u hb,K u=true->hget h2 u=some hb->V.kpR f01 hb.rows=hb.rows):HSt (C0.narrow C2 K) w' (h2.filter fun p=>K p.1):=by
 have R:Rl f01 C2 (C0.narrow C2 K) w' w':=narrow_rl hst.zero.2.2 (by have:=hst.two;omega);have ho:∀ b,Own C2 b->Own C0 b\/w.heap.size<=b:=fun b hb=>(F.own b hb).imp (fun h=>xU h hlv) id;refine ⟨fun u hu=>?_,fun u hb hu=>?_,fun u L hL=>hst.lt u L (X3 hL).2,fun u u' L L' b h1 h3 h4 h5=>hst.inj u u' L L' b (X3 h1).2 (X3 h3).2 h4 h5,fun u L b l h1 h3 h4 h5=>?_,fun l b h1 h3=>?_,hst.lvs,fun l l' b h1 h3 h4 h5=>?_,hst.zero,hst.two,⟨fun u hb L hu hL=>?_,fun u hu=>?_,fun u=>?_,fun u b hb=>hst.sub.lt u b (gU hb).2,fun u b u' L hb h1 h3=>hst.sub.root u b u' L (gU hb).2 (X3 h1).2 h3,fun u u' b hb hb'=>hst.sub.dis u u' b (gU hb).2 (gU hb').2,fun u b l hb h1 h3=>?_⟩,fun b hb=>⟨?_,(hst.tab b hb).2⟩⟩
 .rw [eO]at hu;simp only [Ctx.narrow];split
  .rename_i hk;rw [if_pos hk]at hu;exact hst.dom u hu
  .rfl
 .rw [eO]at hu;split at hu
  .rename_i hk;obtain ⟨L,e1,e2,e3,e4⟩:=hst.ent u hb hu;refine ⟨L,by simp [Ctx.narrow,hk,e1],e2,e3,?_⟩;have hr:=hrl u hb hk hu;have hrow:∀(i:Nat) row,hb.rows[i]? =some row->row.map (V.kp f01)=row:=fun i row hi=>kpR_row hr hi;refine e4.imp rfl id (fun _ _=>rfl) (fun b hbk h5=>?_) fun ents he=>⟨ents,he,?_⟩
   .obtain ⟨vals,g5⟩:=h5;refine ⟨vals,fun i row hi=>⟨(g5 i row hi).1,(g5 i row hi).2.1,?_⟩⟩;have:=RepL.kp R (Nat.le_refl _) (fun u L' h=>(X3 h).2) (g5 i row hi).2.2;rw [hrow i row hi]at this;exact this
   .intro vs hv;have:=RepL.kp R (Nat.le_refl _) (fun u L' h=>(X3 h).2) hv;rw [hrow 0 ents (by rw [he];rfl)]at this;exact this
  .cases hu
 .simp only [Ctx.narrow]at h5;obtain ⟨hk,h1⟩:=X3 h1;split at h5
  .exact ai1 hs (ho b (.inl ⟨u,L,h1,h3⟩)) (Nat.zero_le _) h5
  .exact hst.own u L b l h1 h3 h4 h5
 .simp only [Ctx.narrow]at h3;split at h3
  .have:=hs.regs 0 b hs.zero.1 h3;have:=F.size;omega
  .exact hst.regs l b h1 h3
 .simp only [Ctx.narrow]at h4 h5;have key:∀ l,l≠0->C2.lv l->C2.reg l b->C0.reg 0 b->False:=fun l hl0 hlvl hr h0=>by
   by_cases e1:l=1
   .subst e1;rcases F.r1 b hr with g|g|g
    .rcases g with g|⟨e,_⟩
     .have:=hs.rdis 1 0 b hs.zero.2.1 hs.zero.1 g h0;omega
     .omega
    .exact ai1 hs (.inl (xU g hlv)) (Nat.zero_le _) h0
    .exact ai1 hs (.inr g) (Nat.zero_le _) h0
   .exact ai1 hs (ho b (.inr (.inl ⟨l,by omega,hlvl,hr⟩))) (Nat.zero_le _) h0
  by_cases e1:l=0
  .by_cases e2:l'=0
   .rw [e1,e2]
   .rw [if_pos e1]at h4;rw [if_neg e2]at h5;exact (key l' e2 h3 h5 h4).elim
  .rw [if_neg e1]at h4;by_cases e2:l'=0
   .rw [if_pos e2]at h5;exact(key l e1 h1 h4 h5).elim
   .rw [if_neg e2]at h5;exact hst.rdis l l' b h1 h3 h4 h5
 .rw [eO]at hu;obtain ⟨hk,hL⟩:=X3 hL;rw [if_pos hk]at hu;have:(C0.narrow C2 K).sub u=C2.sub u:=by simp [Ctx.narrow,hk]
  rw [this];exact hst.sub.dp u hb L hu hL
 .simp only [Ctx.narrow]at hu |-;split
  .rename_i hk;rw [if_pos hk]at hu;exact hst.sub.s0 u hu
  .rfl
 .simp only [Ctx.narrow];split
  .exact hst.sub.nd u
  .exact .nil
 .simp only [Ctx.narrow]at h3;obtain ⟨hk,hb⟩:=gU hb;split at h3
  .exact ai1 hs (ho b (.inr (.inr ⟨u,hb⟩))) (Nat.zero_le _) h3
  .exact hst.sub.reg u b l hb h1 h3
 .simp only [Ctx.narrow,if_pos];exact (hs.tab b hb).1
theorem narrow_rep (hz:¬ C2.lv 2)(hn:2<C2.nx){v:Value}{x:V}(hv:Rep C2 w' v x)(hx:x.rnA (fun u=>if K u=true then some u else none)=x):Rep (C0.narrow C2 K) w' v x:=by
 rw [<- hx];refine Rep.rnA (narrow_rl hz hn) (fun u j hj hu=>?_) hv;split at hj
 .rename_i hk;obtain rfl:=Option.some.inj hj;exact ⟨hu,fun L' hL'=>⟨L',(X3 hL').2,.inl rfl⟩⟩
 .cases hj
end
def Ctx.lend0 (C:Ctx)(us:List Nat):Ctx:={ C.lend us with reg:=fun l b=>l=0/\C.reg 0 b }
theorem lend0_st {C:Ctx}{w:World}{us:List Nat}{h:List (Nat×HB)}(H:HSt (C.lend us) w h)(hrl:∀ u hb,hget h u=some hb->V.kpR (fun _=>2) hb.rows=hb.rows):HSt (C.lend0 us) w h:=by
 have R:Rl (fun _=>2) (C.lend us) (C.lend0 us) w w:=⟨fun _ _=>by show 2<12;omega,fun _ _ h=>absurd h (by show ¬ 2<=1;omega),fun _ _ _ h _=>absurd h (by show ¬ 2<=1;omega)⟩
 have hr:∀ l b,(C.lend0 us).reg l b->(C.lend us).reg l b:=fun l b h=>by
  obtain⟨rfl,h⟩:=h;exact ⟨Nat.zero_le _,h⟩
 refine⟨H.dom,fun u hb hu=>?_,H.lt,H.inj,fun u L b l h1 h2 h3 h4=>H.own u L b l h1 h2 h3 (hr l b h4),fun l b h1 h2=>H.regs l b h1 (hr l b h2),H.lvs,fun l l' b _ _ h3 h4=>by rw [h3.1,h4.1],H.zero,H.two,⟨H.sub.dp,H.sub.s0,H.sub.nd,H.sub.lt,H.sub.root,H.sub.dis,fun u b l h1 h2 h3=>H.sub.reg u b l h1 h2 (hr l b h3)⟩,fun b hb=>⟨⟨rfl,(H.tab b hb).1.2⟩,(H.tab b hb).2⟩⟩;obtain ⟨L,e1,e2,e3,e4⟩:=H.ent u hb hu;refine ⟨L,e1,e2,e3,?_⟩;have hrr:=hrl u hb hu;have hrow:∀(i:Nat) row,hb.rows[i]? =some row->row.map (V.kp (fun _=>2))=row:=fun i row hi=>kpR_row hrr hi;refine e4.imp rfl id (fun _ _=>rfl) (fun b hbk h5=>?_) fun ents he=>⟨ents,he,?_⟩
 .obtain ⟨vals,g5⟩:=h5;refine ⟨vals,fun i row hi=>⟨(g5 i row hi).1,(g5 i row hi).2.1,?_⟩⟩;have:=RepL.kp R (Nat.le_refl _) (fun u L' h=>h) (g5 i row hi).2.2;rw [hrow i row hi]at this;exact this
 .intro vs hv;have:=RepL.kp R (Nat.le_refl _) (fun u L' h=>h) hv;rw [hrow 0 ents (by rw [he];rfl)]at this;exact this
theorem lend0_fr {C C2:Ctx}{w w':World}{us:List Nat}(F:Fr (C.lend0 us) C2 w w'):Fr (C.lend us) C2 w w':=by
 have ho:∀ b,Own (C.lend0 us) b->Own (C.lend us) b:=fun b h=>by
  rcases h with h|⟨l,h1,h2,h3⟩|h
  .exact .inl h
  .have:l<=1:=h2;omega
  .exact .inr (.inr h)
 have ho2:∀ b,Own (C.lend us) b->Own (C.lend0 us) b:=fun b h=>by
  rcases h with h|⟨l,h1,h2,h3⟩|h
  .exact .inl h
  .have:l<=1:=h2;omega
  .exact .inr (.inr h)
 refine⟨F.size,fun b hb h=>F.keep b hb fun g=>h (ho b g),fun b hb=>(F.own b hb).imp (ho b) id,fun b hb=>⟨Nat.zero_le _,(F.r0 b hb).2⟩,fun b hb=>?_,F.os,F.out,F.low⟩;rcases F.r1 b hb with h|h|h
 .exact absurd h.1 (by omega)
 .exact .inr (.inl (ho b h))
 .exact .inr (.inr h)
def Bs (C:Ctx)(vs:List Nat)(b:Nat):Prop:=(∃ l,C.lv l/\C.reg l b)\/∃ u∈vs,Has C u b
def RuV (s:St)(us vs:List Nat)(x x':V):Prop:=∀ C w a,StRep C w a s->∀ v,Rep C w v x->Rep ((C.lend0 us).wide (Bs C vs)) w v x'
def RuL (s:St)(us vs:List Nat):List V->List V->Prop
 | [],[]=>True
 |x::xs,y::ys=>RuV s us vs x y/\RuL s us vs xs ys
 |_,_=>False
section
variable {s:St} {us vs:List Nat}
theorem qL:RuL s us vs [] []:=trivial
theorem A9 {x y:V}{xs ys:List V}(h:RuV s us vs x y)(t:RuL s us vs xs ys):RuL s us vs (x::xs) (y::ys):=⟨h,t⟩
theorem ruL_rep {C:Ctx}{w:World}{a:Act}(hs:StRep C w a s):∀{ws:List Value} {xs ys:List V},RuL s us vs xs ys->RepL C w ws xs->RepL ((C.lend0 us).wide (Bs C vs)) w ws ys
 |_,[],[],_,.nil=>.nil
 |_,x::xs,y::ys,h,.cons hv t=>.cons (h.1 C w a hs _ hv) (ruL_rep hs h.2 t)
 |_,[],_::_,h,_=>h.elim
 |_,_::_,[],h,_=>h.elim
theorem bs_lt {C:Ctx}{w:World}{h:List (Nat×HB)}(hs:HSt C w h){b:Nat}(hb:Bs C vs b):b<w.heap.size:=by
 rcases hb with ⟨l,h1,h2⟩|⟨u,_,hh⟩
 .exact hs.regs l b h1 h2
 .exact hs.ownlt hh.own
theorem ru_rl0 {C:Ctx}{w:World}{a:Act}(hs:StRep C w a s):Rl (f0 s) C ((C.lend0 us).wide (Bs C vs)) w w:=by
 refine⟨fun l _=>?_,fun l _ hl=>?_,fun l b _ hl hb=>⟨?_,rfl⟩⟩
 .show f0 s l<12;unfold f0;cases s.live l<;>decide
 .cases hlv:s.live l
  .simp only [f0,hlv,cond_false]at hl;exact absurd hl (by show ¬ 2<=1;omega)
  .exact hs.live hlv
 .cases hlv:s.live l
  .simp only [f0,hlv,cond_false]at hl;exact absurd hl (by show ¬ 2<=1;omega)
  .exact .inr ⟨by simp [f0,hlv],.inl ⟨l,hs.live hlv,hb⟩⟩
theorem uE {x x':V}(h:x.rl (f0 s)=x'):RuV s us vs x x':=fun C w a hs v hv=>by rw [<- h];exact Rep.rl (ru_rl0 hs) hv
theorem ru_mp (hl:Nat.ble us.length 12=true){u j k:Nat}(hu:dn us u=some j):RuV s us vs (.mp u k) (.mp j k):=fun C w a hs v hv=>by
 have:=Rep.rn (tZ hs.heap (Nat.le_of_ble_eq_true hl)) hv;simp only [V.rn,hu]at this;cases this with |mp h1 h2=>exact .mp h1 h2
theorem xA (hl:Nat.ble us.length 12=true){u j n i off:Nat}(hu:dn us u=some j):RuV s us vs (.ptr u n i off) (.ptr j n i off):=fun C w a hs v hv=>by
 have:=Rep.rn (tZ hs.heap (Nat.le_of_ble_eq_true hl)) hv;simp only [V.rn,hu]at this;cases this with |ptr h1 h2=>exact .ptr h1 h2
theorem ru_nil {sz:Nat}:RuV s us vs .nilsl (.psl 0 sz []):=fun C w a hs v hv=>by
 cases hv;exact .psl0 _ _ _ _
theorem ru_hslD {u n sz:Nat}{rows rows':List (List V)}(hu:hget s.heap u=some ⟨sz,rows⟩)(hn:n=rows.length)(hz:(vs.contains u&&!Nat.beq sz 0)=true)(hdp:∀ row∈rows,row.all dpV=true)(hr:V.rlR (fun _=>0) rows=rows'):RuV s us vs (.hsl u 0 n) (.psl 0 sz rows'):=fun C w a hs v hv=>by
 subst hr;rw [Bool.and_eq_true]at hz;have hz2:=hz.2;obtain ⟨L,h1,h2,h3,h4,h5⟩:=aO hs.heap hv hu (by show 0+n=rows.length;omega);have h2':L.sz=sz:=h2;subst hn;have hd:=ac0 (by rw [h2'];intro e;subst e;simp at hz2) h5 h4 (hs.heap.sub.dp u _ L hu h1) hdp;rw [h2']at hd;refine DeepV.rep (k:=0) (Nat.zero_le _) (by show 0<12;omega) (fun b hb=>.inr ⟨rfl,.inr ⟨u,by simpa using hz.1,?_⟩⟩) hd;rcases List.mem_append.1 hb with hb|hb
 .exact .inl ⟨L,h1,by simpa using hb⟩
 .exact .inr hb
theorem av7 {u n sz:Nat}{rows rows':List (List V)}(hu:hget s.heap u=some ⟨sz,rows⟩)(hn:n=rows.length)(hz:vs.contains u=true)(hr:V.rlR (f0 s) rows=rows'):RuV s us vs (.hsl u 0 n) (.psl 0 sz rows'):=fun C w a hs v hv=>by
 subst hr;obtain ⟨L,h1,h2,h3,h4,h5⟩:=aO hs.heap hv hu (by show 0+n=rows.length;omega);have h2':L.sz=sz:=h2;subst hn;unfold HSL at h5;cases hbk:L.blk with
 |none=>
  rw [hbk]at h5;simp only at h5;unfold Blk at h4;rw [hbk]at h4;have:rows=[]:=h4.1;subst this;rw [h5];exact .psl0 _ _ _ _
 |some b=>
  rw [hbk]at h5;simp only [Nat.zero_mul,Nat.sub_zero]at h5;obtain ⟨cs,el,fz,g1,g2,g3,g4,vals,g5⟩:=fQ hbk h5.1 h4;rw [h5.2];have hlen:(V.rlR (f0 s) rows).length=rows.length:=by rw [zP,List.length_map]
  refine .psl (off:=0) vals (Nat.zero_le _) (by show 0<12;omega) (.inr ⟨rfl,.inr ⟨u,by simpa using hz,.inl ⟨L,h1,hbk⟩⟩⟩) hlen.symm g3 (fun i row hi=>?_) (fun i row hi=>?_)
  .obtain ⟨r,k1,_⟩:=qJ _ _ i row hi;rw [<- h2'];exact ⟨(g5 i r k1).1,(g5 i r k1).2.1⟩
  .obtain ⟨r,k1,rfl⟩:=qJ _ _ i row hi;exact RepL.rl (ru_rl0 hs) (g5 i r k1).2.2
end
section
variable {P:Program} {s:St} {ops:Array Oper} {f:FuncId} {args:List Operand} {args':List V} {tys:Array TypeId} {d:Option Nat} {ty:Nat} {pos:String} {af:Array Edge} {gu:Option (Nat×Bool)} {r:List Oper} {K:St->Prop} {s1:St}
def keepN (m:Nat)(js:List Nat)(u:Nat):Bool:=Nat.blt u m||js.contains u
theorem call_lrC (us vs:List Nat){bs0 bs cs cs0 hbs0:List HB}{y':V}{n nx:Nat}{R:V->List (Nat×HB)->Prop}(hc:FC P f args' (eg 0 bs) 12 R)(hg:gd ops.toList s gu=some true)
 (hl:Nat.ble us.length 12=true) (hd:distinct us=true) (hdis:(vs.all fun v=>!us.contains v)=true) (hlen:(Nat.beq us.length bs.length&&Nat.beq us.length cs.length)=true) (hv:RuL s us vs (evL s args) args')
 (hu:us.map (hget s.heap)=bs0.map some) (hin:RnB (dn us) bs0 bs) (hout:RnB (us[·]?) cs cs0) (hnx:s.nx=nx) (hpl:∀ b∈bs,V.kpR (fun _=>2) b.rows=b.rows) (hcs:∀ c∈cs,V.kpR f01 c.rows=c.rows)
 (hR:∀ x h2,R x h2->∃(js:List Nat) (hbs:List HB),js.length=n/\dst2 us.length js=true/\js.map (hget h2)=hbs.map some/\eh h2 0 cs/\(hbs.map fun hb=>⟨hb.sz,rnR (us[·]?) hb.rows⟩)=hbs0/\x.rn (upN us js nx)=y'/\
  (∀ hb∈hbs,V.rlR f01 hb.rows=hb.rows)/\x.rnA (fun u=>if keepN us.length js u=true then some u else none)=x)
 (hp:((s.wrL us cs0).newL nx hbs0 n).put d y'=some s1) (h:AOps P ops r s1 K):
 AOps P ops (⟨d,.call ⟨.value (.func f),⟨args⟩,tys⟩,ty,pos,af,gu⟩::r) s K:=by
 rw [Bool.and_eq_true,Nat.beq_eq,Nat.beq_eq]at hlen;have hu':∀(j:Nat) b0,bs0[j]? =some b0->∃ u,us[j]? =some u/\hget s.heap u=some b0:=fun j b0 hj=>by
  have h1:(us.map (hget s.heap))[j]? =some (some b0):=by rw [hu];simp [hj]
  simp only [List.getElem?_map,Option.map_eq_some_iff]at h1;exact h1
 have hL:Lent us s.heap (eg 0 bs):=by
  refine⟨fun j hj=>?_,fun j hb' hj=>?_⟩
  .have h0:=sF bs 0 j;rw [Nat.zero_add]at h0;rw [h0]at hj;have:=List.getElem?_eq_none_iff.1 hj;exact List.getElem?_eq_none (by omega)
  .have h0:=sF bs 0 j;rw [Nat.zero_add]at h0;rw [h0]at hj;obtain ⟨b0,h1,h2,h3⟩:=hin.get j hb' hj;obtain ⟨u,h4,h5⟩:=hu' j b0 h1;exact ⟨u,b0,h4,h5,h2,h3⟩
 have hl':us.length<=12:=Nat.le_of_ble_eq_true hl;refine pQ hg hc.1 fun C w a hs=>?_;have hlv:∀ l,(C.lend0 us).lv l->l<=1:=fun l h=>h;have H0:HSt (C.lend0 us) w (eg 0 bs):=lend0_st (au2 hs.heap hl' hd hL) fun u hb hu=>by
  have h0:=sF bs 0 u;rw [Nat.zero_add]at h0;rw [h0]at hu;exact hpl hb (List.mem_of_getElem? hu)
 have hdj:∀ v∈vs,∀ j:Nat,us[j]? ≠some v:=fun v hv j e=>by
  have:=List.all_eq_true.1 hdis v hv;simp only [Bool.not_eq_true',List.contains_eq_mem,decide_eq_false_iff_not]at this;exact this (List.mem_of_getElem? e)
 have HW:HSt ((C.lend0 us).wide (Bs C vs)) w (eg 0 bs):=by
  refine wide_st H0 (fun b hb=>bs_lt hs.heap hb) (fun j b hb hh=>?_) (fun l b hr=>hr.1);have hh':∃ u':Nat,us[j]? =some u'/\Has C u' b:=by
   rcases hh with ⟨L,h1,h2⟩|h1
   .obtain ⟨u',k1,k2⟩:=ac3 h1;exact ⟨u',k1,.inl ⟨L,k2,h2⟩⟩
   .obtain ⟨u',k1,k2⟩:=iO h1;exact ⟨u',k1,.inr k2⟩
  obtain⟨u',k1,k2⟩:=hh';rcases hb with ⟨l,h1,h2⟩|⟨u,hu1,hu2⟩
  .exact hs.heap.has_reg k2 h1 h2
  .have:=hs.heap.has_inj hu2 k2;subst this;exact hdj _ hu1 j k1
 refine(hc.2 ((C.lend0 us).wide (Bs C vs)) w ⟨args.map a.eval⟩ rfl HW (ruL_rep hs hv (nM hs args))).mono ?_;rintro e w' ⟨v,C2,x,h2,rfl,e2,e3,e4,e5⟩;obtain ⟨js,hbs,k1,k2,k3,k4,k5,k6,k7,k8⟩:=hR x h2 e5;have hget':∀(i:Nat) j hb,js[i]? =some j->hbs[i]? =some hb->hget h2 j=some hb:=fun i j hb h1 h3=>by
  have:=congrArg (fun l=>l[i]?) k3;simpa [h1,h3]using this
 have hjl:js.length=hbs.length:=by simpa using congrArg List.length k3
 have hrl:∀ u hb,keepN us.length js u=true->hget h2 u=some hb->V.kpR f01 hb.rows=hb.rows:=fun u hb hk hu2=>by
  unfold keepN at hk;rw [Bool.or_eq_true]at hk;rcases hk with hk|hk
  .have hk:u<us.length:=Nat.le_of_ble_eq_true hk;obtain ⟨c,hcj⟩:∃ c,cs[u]? =some c:=⟨cs[u]'(by omega),List.getElem?_eq_getElem (by omega)⟩
   have h1:=sP cs 0 u c k4 hcj;rw [Nat.zero_add,hu2]at h1;simp only [Option.some.injEq]at h1;rw [h1];exact hcs c (List.mem_of_getElem? hcj)
  .obtain ⟨i,hi⟩:=List.getElem?_of_mem (List.contains_iff_mem.1 hk);have hil:=(List.getElem?_eq_some_iff.1 hi).1;have h1:=hget' i u _ hi (List.getElem?_eq_getElem (by omega));rw [hu2]at h1;simp only [Option.some.injEq]at h1;rw [h1];exact A2 (k7 _ (List.getElem_mem _))
 have N:=narrow_st (K:=keepN us.length js) H0 hlv e4 e2 hrl;have NF:=narrow_fr (K:=keepN us.length js) e4 hlv;have NR:=narrow_rep (C0:=C.lend0 us) (K:=keepN us.length js) e2.zero.2.2 (by have:=e2.two;omega) e3 k8;have hk0:∀ j,j<us.length->keepN us.length js j=true:=fun j hj=>by
  unfold keepN;rw [Bool.or_eq_true];exact .inl (Nat.ble_eq_true_of_le hj)
 have hk1:∀ j∈js,keepN us.length js j=true:=fun j hj=>by
  unfold keepN;rw [Bool.or_eq_true];exact .inr (List.contains_iff_mem.2 hj)
 have hrows:js.map (hget (h2.filter fun p=>keepN us.length js p.1))=hbs.map some:=by
  rw [<- k3];refine List.map_congr_left fun j hj=>?_;rw [eO,if_pos (hk1 j hj)]
 have hH:HomeOK us s.heap (h2.filter fun p=>keepN us.length js p.1) (s.wrL us cs0).heap:=by
  intro x;refine ⟨fun j hj=>?_,fun hj=>?_⟩
  .rw [al5 us cs0 s x (hlen.2.trans hout.length) hd,hj];have hjl:j<us.length:=by
    have:=cZ hj;rcases Nat.lt_or_ge j us.length with h|h
    .exact h
    .simp [List.getElem?_eq_none h]at this
   have hcl:=hout.length;obtain ⟨c0,hc0⟩:∃ c0,cs0[j]? =some c0:=⟨cs0[j]'(by omega),List.getElem?_eq_getElem (by omega)⟩
   have hcj:∃ c,cs[j]? =some c:=⟨cs[j]'(by omega),List.getElem?_eq_getElem (by omega)⟩
   obtain⟨c,hcj⟩:=hcj;have h1:=sP cs 0 j c k4 hcj;rw [Nat.zero_add]at h1;obtain ⟨c1,q1,q2,q3⟩:=hout.get j c0 hc0;rw [hcj]at q1;simp only [Option.some.injEq]at q1;subst q1;rw [eO,if_pos (hk0 j hjl),h1];show cs0[j]? =_;rw [hc0];cases c0;simp only at q2 q3;simp only [Option.map_some,<- q2,<- q3]
  .rw [al5 us cs0 s x (hlen.2.trans hout.length) hd,hj]
 obtain⟨a1,a2,a3,a4,a5,a6⟩:=owns_core hs.heap hl' hd hL (lend0_fr NF) N hH (dst2_d k2) (dst2_none k2 rfl) hrows;have hn2:C.nx=s.nx:=hs.nx;rw [hn2]at a1 a3 a6;subst hnx;refine ⟨v,_,s1,rfl,W2 (s:={ s with heap:=heapL s.nx (hbs.map fun hb=>⟨hb.sz,rnR (us[·]?) hb.rows⟩) (s.wrL us cs0).heap,nx:=s.nx+js.length }) ⟨hs.defers,hs.size,a3,fun i=>(hs.env i).mono a2,a1,by rw [a4];exact hs.lv⟩ (Rep.rn a6 NR) ?_,a5,h⟩;rw [k6,k5,k1];obtain ⟨e1,e2,e3,e4⟩:=az5 us cs0 s;have:({ s with heap:=heapL s.nx hbs0 (s.wrL us cs0).heap,nx:=s.nx+n }:St)=(s.wrL us cs0).newL s.nx hbs0 n:=by
  cases hw:s.wrL us cs0;rw [hw]at e1 e3 e4;simp only at e1 e3 e4;simp only [St.newL,e1,e3,e4]
 rw [this];exact hp
theorem bX {f:Nat->Nat}:∀ b∈([]:List HB),V.kpR f b.rows=b.rows:=fun b h=>by cases h
theorem q9 {f:Nat->Nat}{sz:Nat}{rows:List (List V)}{bs:List HB}(h:V.kpR f rows=rows)(t:∀ b∈bs,V.kpR f b.rows=b.rows):∀ b∈(⟨sz,rows⟩::bs:List HB),V.kpR f b.rows=b.rows:=fun b hb=>by
 rcases List.mem_cons.1 hb with rfl|hb
 .exact h
 .exact t b hb
theorem jZ (us vs:List Nat){bs0 bs cs cs0:List HB}{nx:Nat}{y y':V}(hg:gd ops.toList s gu=some true)
 (hl:Nat.ble us.length 12=true) (hd:distinct us=true) (hdis:(vs.all fun v=>!us.contains v)=true) (hlen:(Nat.beq us.length bs.length&&Nat.beq us.length cs.length)=true) (hv:RuL s us vs (evL s args) args')
 (hu:us.map (hget s.heap)=bs0.map some) (hin:RnB (dn us) bs0 bs) (hout:RnB (us[·]?) cs cs0) (hnx:s.nx=nx) (hpl:∀ b∈bs,V.kpR (fun _=>2) b.rows=b.rows) (hcs:∀ c∈cs,V.kpR f01 c.rows=c.rows)
 (hc:FC P f args' (eg 0 bs) 12 (fun x h2=>x=y/\eh h2 0 cs)) (hy:y.rn (upN us [] nx)=y') (hk:y.rl f01=y)
 (hp:((s.wrL us cs0).newL nx [] 0).put d y'=some s1) (h:AOps P ops r s1 K):AOps P ops (⟨d,.call ⟨.value (.func f),⟨args⟩,tys⟩,ty,pos,af,gu⟩::r) s K:=
 call_lrC us vs (hbs0:=[]) (n:=0) hc hg hl hd hdis hlen hv hu hin hout hnx hpl hcs (fun x h2 ⟨e,h3⟩=>⟨[],[],rfl,rfl,rfl,h3,rfl,by rw [e];exact hy,fun b hb=>(by cases hb),by rw [e];exact rnA_rl hk⟩) hp h
variable (us vs:List Nat) {bs0 bs cs cs0:List HB} {m nx:Nat} (hg:gd ops.toList s gu=some true)
 (hl:Nat.ble us.length 12=true) (hd:distinct us=true) (hm:Nat.beq us.length m=true) (hdis:(vs.all fun v=>!us.contains v)=true) (hlen:(Nat.beq us.length bs.length&&Nat.beq us.length cs.length)=true) (hv:RuL s us vs (evL s args) args')
 (hu:us.map (hget s.heap)=bs0.map some) (hin:RnB (dn us) bs0 bs) (hout:RnB (us[·]?) cs cs0) (hnx:s.nx=nx) (hpl:∀ b∈bs,V.rlR (fun _=>2) b.rows=b.rows) (hcs:∀ c∈cs,V.rlR f01 c.rows=c.rows)
include hg hl hd hm hdis hlen hv hu hin hout hnx hpl hcs
end
end Go.Abs

namespace Go.Abs
section
variable {P:Program} {s:St} {K:Exit->St->Prop} {c:Code}
end
end Go.Abs

namespace Go.Abs
section
variable {T:List TI} {s:St}
theorem G0 {rs:List ResultVar}{r x:V}{cs:List HB}(h:resV T s rs=some r)(hR:VLe r x)(hQ:eh s.heap 0 cs):retK T rs (fun y h2=>VLe y x/\eh h2 0 cs) .normal s:=⟨r,h,hR,hQ⟩
theorem av8 {α:Type}(c:Cd α){us vs:List Nat}:RuV s us vs .nilsl (.psl 0 c.sz (([]:List α).map (c.enc 0))):=ru_nil
theorem ru_hslN {us vs:List Nat}(hl:Nat.ble us.length 12=true){u j i len:Nat}(hu:dn us u=some j):RuV s us vs (.hsl u i len) (.hsl j i len):=fun C w a hs v hv=>by
 have:=Rep.rn (tZ hs.heap (Nat.le_of_ble_eq_true hl)) hv;simp only [V.rn,hu]at this;cases this with |hsl h1 h2=>exact .hsl h1 h2
end
end Go.Abs

namespace Go.Abs
theorem ad1 {P:Program}{ops:List Oper}{m:Nat}{J s s':St}{f:Nat}{l:List Nat}(g:APl P ops m J f l s')(h:Le s s'):APl P ops m J f l s:=aperm_le h g
theorem l9 {P:Program}{ops:List Oper}{m:Nat}{J s0:St}{d1:List Nat}{L:List (Option Nat×YldX)}{Fs:List (List Nat)}(l:List Nat)(f:Nat)(s:St)(h1:APl P ops m J f l s)
 (h2:APl P ops m J f l s->AllS (Left P ops m J d1 s0 L) Fs):AllS (Left P ops m J d1 s0 L) Fs:=h2 h1
theorem eget_mem:∀{e:List (Nat×V)} {i:Nat},eget e i=.junk\/(i,eget e i)∈e
 | [],_=>.inl rfl
 |(j,v)::r,i=>by
  simp only [eget,Bool.cond_eq_ite,Nat.beq_eq];by_cases h:i=j
  .rw [if_pos h,h];exact .inr (by simp)
  .rw [if_neg h];rcases eget_mem (e:=r) (i:=i)with h|h
   .exact .inl h
   .exact .inr (List.mem_cons_of_mem _ h)
theorem af4:∀{h:List (Nat×HB)} {u:Nat} {x:HB},hget h u=some x->(u,x)∈h
 | [],_,_,h=>by cases h
 |(j,v)::r,u,x,h=>by
  simp only [hget,Bool.cond_eq_ite,Nat.beq_eq]at h;by_cases e:u=j
  .rw [if_pos e]at h;cases h;rw [e];simp
  .rw [if_neg e]at h;exact List.mem_cons_of_mem _ (af4 h)
theorem hget_none:∀{h:List (Nat×HB)} {u:Nat},hget h u=none->∀ p∈h,p.1≠u
 | [],_,_,p,hp=>by cases hp
 |(j,v)::r,u,h,p,hp=>by
  simp only [hget,Bool.cond_eq_ite,Nat.beq_eq]at h;by_cases e:u=j
  .rw [if_pos e]at h;cases h
  .rw [if_neg e]at h;rcases List.mem_cons.1 hp with rfl|hp
   .exact fun e2=>e e2.symm
   .exact hget_none h p hp
theorem le_es {e1 e2:List (Nat×V)}{h h':List (Nat×HB)}{nx n:Nat}{lv:List Nat}(he:(e2.map fun p=>(p.1,eget e1 p.1))=e2)(hk:(h.all fun p=>h'.any fun q=>Nat.beq q.1 p.1)=true)
 (hh:(h'.map fun p=>(p.1,hget h p.1))=h'.map fun p=>(p.1,some p.2)):Le ⟨e1,h,nx,n,lv⟩ ⟨e2,h',nx,n,lv⟩:=tX fun C w a hs=>by
 have h2:∀ p∈e2,eget e1 p.1=p.2:=fun p hp=>by
  obtain⟨i,hi,e⟩:=List.getElem_of_mem hp;have:=congrArg (·[i]?) he;simp only [List.getElem?_map,List.getElem?_eq_getElem hi,Option.map_some,e,Option.some.injEq]at this;exact congrArg Prod.snd this
 have h3:∀ p∈h',hget h p.1=some p.2:=fun p hp=>by
  obtain⟨i,hi,e⟩:=List.getElem_of_mem hp;have:=congrArg (·[i]?) hh;simp only [List.getElem?_map,List.getElem?_eq_getElem hi,Option.map_some,e,Option.some.injEq]at this;exact congrArg Prod.snd this
 have hg:∀ u,hget h' u=hget h u:=fun u=>by
  cases h1:hget h' u with
  |some x=>exact(h3 _ (af4 h1)).symm
  |none=>
   cases h4:hget h u with
   |none=>rfl
   |some x=>
    have h5:=List.all_eq_true.1 hk _ (af4 h4);obtain ⟨q,h6,h7⟩:=List.any_eq_true.1 h5;rw [Nat.beq_eq]at h7;exact absurd h7 (hget_none h1 q h6)
 refine⟨hs.defers,hs.size,hs.nx,fun i=>?_,?_,hs.lv⟩
 .show Rep C w _ (eget e2 i);rcases eget_mem (e:=e2) (i:=i)with h|h
  .rw [h];exact .junk _
  .have e:eget e1 i=eget e2 i:=h2 _ h;rw [<- e];exact hs.env i
 .have H:=hs.heap;exact { H with
   dom:=fun u hu=>H.dom u (by rw [<- hg];exact hu)
   ent:=fun u hb hu=>H.ent u hb (by rw [<- hg];exact hu)
   sub:={ H.sub with dp:=fun u hb L hu hL=>H.sub.dp u hb L (by rw [<- hg];exact hu) hL } }
theorem l0 {P:Program}{ops:List Oper}{m:Nat}{J:St}{f:Nat}{l:List Nat}{e1 e2:List (Nat×V)}{h h':List (Nat×HB)}{nx n:Nat}{lv:List Nat}(g:APl P ops m J f l ⟨e2,h',nx,n,lv⟩)(he:(e2.map fun p=>(p.1,eget e1 p.1))=e2)(hk:(h.all fun p=>h'.any fun q=>Nat.beq q.1 p.1)=true)
 (hh:(h'.map fun p=>(p.1,hget h p.1))=h'.map fun p=>(p.1,some p.2)):APl P ops m J f l ⟨e1,h,nx,n,lv⟩:=ad1 g (le_es he hk hh)
end Go.Abs

namespace Go.Abs
section
variable {P:Program} {T:List TI} {s s':St} {ops:Array Oper} {ty:Nat} {pos:String} {af:Array Edge} {gu:Option (Nat×Bool)} {r:List Oper} {K:St->Prop}
end
section
variable {P:Program} {T:List TI} {ops:List Oper} {s s1:St} {ty:Nat} {pos:String} {af:Array Edge} {gu:Option (Nat×Bool)} {r:List Oper} {N:List (Option Nat×YldX)->Prop} {pd:List (Option Nat×YldX)}
theorem x_slitG {t e n x:Nat}{kd:TK}{sz bts:Nat}{z0:List V}{ag:Bool}{parts:List (Nat×Operand)}{rows:List (List V)}(hT:TabOK P T)(hg:gd ops (s.only (gSlots ops ⟨some x,.buildSlice t n ⟨parts⟩,ty,pos,af,gu⟩)) gu=some true)(ht:elemI T t=some (e,⟨kd,sz,bts,z0,ag⟩))(hz:z0.isEmpty=false)
 (hr:rowsV (s.only (opSlots ⟨some x,.buildSlice t n ⟨parts⟩,ty,pos,af,gu⟩)) sz 0 parts=some rows) (hn:Nat.beq rows.length n=true) (hb:((Nat.ble (n * sz) 16777216&&flatR rows)&&!Nat.beq sz 0)=true)
 (hp:s.put (some x) .junk=some s1) (h:DX P ops r s1 (pd++[(some x,.new ⟨x,[⟨sz,rows⟩],fun k=>.hsl k 0 rows.length⟩)]) N):DX P ops (⟨some x,.buildSlice t n ⟨parts⟩,ty,pos,af,gu⟩::r) s pd N:=by
 refine dx_new (p:=⟨x,[⟨sz,rows⟩],fun k=>.hsl k 0 rows.length⟩) hg rfl ?_ hp h;exact av0 (P:=P) (s:=s.only (opSlots ⟨some x,.buildSlice t n ⟨parts⟩,ty,pos,af,gu⟩)) (o:=⟨some x,.buildSlice t n ⟨parts⟩,ty,pos,af,gu⟩) (p:=⟨x,.hsl,sz,rows⟩) (onew_of (cap:=n) (flat_of hb) (nz_of hb) fun C w a hs=>by
  have hn':=Nat.eq_of_beq_eq_true hn;obtain ⟨v,cs,el,h1,h2,h3,h4,h5⟩:=av9 (ty:=ty) (pos:=pos) (af:=af) (gu:=gu) (d:=some x) hT ht hz hr hn (ble_of hb) hs;refine ⟨v,cs,el,h1,h2,h3,h4,?_⟩;dsimp only;rw [h5];unfold KindOK;simp [HSL,hn',nz_of hb])
theorem x_slit {α:Type}(c:Cd α){t e n l x:Nat}{kd:TK}{sz bts:Nat}{z0:List V}{ag:Bool}{parts:List (Nat×Operand)}(xs:List α)(hT:TabOK P T)(hg:gd ops (s.only (gSlots ops ⟨some x,.buildSlice t n ⟨parts⟩,ty,pos,af,gu⟩)) gu=some true)(ht:elemI T t=some (e,⟨kd,sz,bts,z0,ag⟩))(hz:z0.isEmpty=false)
 (hr:rowsV (s.only (opSlots ⟨some x,.buildSlice t n ⟨parts⟩,ty,pos,af,gu⟩)) sz 0 parts=some (xs.map (c.row l))) (hn:Nat.beq xs.length n=true) (hb:((Nat.ble (n * sz) 16777216&&flatR (xs.map (c.row l)))&&!Nat.beq sz 0)=true)
 (hp:s.put (some x) .junk=some s1) (h:DX P ops r s1 (pd++[(some x,.new ⟨x,[⟨sz,xs.map (c.enc l)⟩],fun k=>.hsl k 0 xs.length⟩)]) N):DX P ops (⟨some x,.buildSlice t n ⟨parts⟩,ty,pos,af,gu⟩::r) s pd N:=by
 refine dx_new (p:=⟨x,[⟨sz,xs.map (c.enc l)⟩],fun k=>.hsl k 0 xs.length⟩) hg rfl ?_ hp h;have h2:=av0 (P:=P) (s:=s.only (opSlots ⟨some x,.buildSlice t n ⟨parts⟩,ty,pos,af,gu⟩)) (o:=⟨some x,.buildSlice t n ⟨parts⟩,ty,pos,af,gu⟩) (p:=⟨x,.hsl,sz,xs.map (c.enc l)⟩) (onew_of (cap:=n) (by rw [c.map_eq];exact flat_of hb) (nz_of hb) fun C w a hs=>by
  rw [c.map_eq];have hn':=Nat.eq_of_beq_eq_true hn;obtain ⟨v,cs,el,h1,h2,h3,h4,h5⟩:=av9 (ty:=ty) (pos:=pos) (af:=af) (gu:=gu) (d:=some x) hT ht hz hr (by simpa using hn) (ble_of hb) hs;refine ⟨v,cs,el,h1,h2,h3,h4,?_⟩;dsimp only;rw [h5];unfold KindOK;simp [HSL,hn',nz_of hb])
 have e:kindV ⟨x,.hsl,sz,xs.map (c.enc l)⟩=fun k=>V.hsl k 0 xs.length:=by
  funext k;simp [kindV]
 rw [<- e];exact h2
end
end Go.Abs

namespace Go.Abs
theorem upJd {j k l m:Nat}{r:List Nat}(hd:distinct (j::k::l::m::r)=true)(n:Nat):upJ (j::k::l::m::r) n m=some (n+3):=by
 have h1:=ao9 hd (k:=m) (by simp);have h2:=ao9 (dst_tl hd) (k:=m) (by simp);have h3:=ao9 (dst_tl (dst_tl hd)) (k:=m) (by simp);simp [upJ,dn,h1,h2,h3]
section
variable {P:Program} {f:FuncId} {args:List V} {h:List (Nat×HB)} {nx:Nat}
theorem fc_fz4 {y:Nat->Nat->Nat->Nat->V}{z p1 p2 p3 p4:V}{n1 n2 n3 n4:Nat}{b1 b2 b3 b4:HB}(hc:FC P f args h nx (fun x h2=>∃ j k l m,x=y j k l m/\distinct [j,k,l,m]=true/\hget h2 j=some b1/\hget h2 k=some b2/\hget h2 l=some b3/\hget h2 m=some b4))(r1:FzR b1 n1 p1)(r2:FzR b2 n2 p2)(r3:FzR b3 n3 p3)(r4:FzR b4 n4 p4)
 (hz:∀ j k l m,FzD (Dz [(j,n1,p1),(k,n2,p2),(l,n3,p3),(m,n4,p4)]) (y j k l m) z):FC P f args h nx (fun x _=>x=z):=
 fc_fz hc fun x h2 ⟨j,k,l,m,e,hd,g1,g2,g3,g4⟩=>⟨[(j,n1,p1),(k,n2,p2),(l,n3,p3),(m,n4,p4)],hd,e ▸ hz j k l m,fun u n z hm=>by
  simp only [List.mem_cons,List.not_mem_nil,or_false,Prod.mk.injEq]at hm;rcases hm with ⟨rfl,rfl,rfl⟩|⟨rfl,rfl,rfl⟩|⟨rfl,rfl,rfl⟩|⟨rfl,rfl,rfl⟩
  .exact ⟨b1,g1,r1⟩
  .exact ⟨b2,g2,r2⟩
  .exact ⟨b3,g3,r3⟩
  .exact ⟨b4,g4,r4⟩⟩
end
section
variable {P:Program} {s s1:St} {ops:Array Oper} {f:FuncId} {args:List Operand} {args':List V} {tys:Array TypeId} {d:Option Nat} {ty:Nat} {pos:String} {af:Array Edge} {gu:Option (Nat×Bool)} {r:List Oper} {K:St->Prop}
theorem call_o4 {y:Nat->Nat->Nat->Nat->V}{b1 b2 b3 b4:HB}(hc:FC P f args' [] 12 (fun x h2=>∃ j k l m,x=y j k l m/\distinct [j,k,l,m]=true/\hget h2 j=some b1/\hget h2 k=some b2/\hget h2 l=some b3/\hget h2 m=some b4))(hg:gd ops.toList s gu=some true)(hv:RdL s (evL s args) args')(h1:V.rlR f01 b1.rows=b1.rows)(h2:V.rlR f01 b2.rows=b2.rows)(h3:V.rlR f01 b3.rows=b3.rows)(h4:V.rlR f01 b4.rows=b4.rows){nx:Nat}(hnx:s.nx=nx)
 (hy:∀ j k l m,distinct [j,k,l,m]=true->(y j k l m).rnA (upJ [j,k,l,m] nx)=y nx (nx+1) (nx+2) (nx+3))
 (hp:({ s with heap:=(nx+3,b4)::(nx+2,b3)::(nx+1,b2)::(nx,b1)::s.heap,nx:=nx+4 }:St).put d (y nx (nx+1) (nx+2) (nx+3))=some s1) (h:AOps P ops r s1 K):
 AOps P ops (⟨d,.call ⟨.value (.func f),⟨args⟩,tys⟩,ty,pos,af,gu⟩::r) s K:=
 vE hc hg hv fun x h2' ⟨j,k,l,m,e,hd,hj,hk,hl,hm⟩=>⟨[j,k,l,m],[b1,b2,b3,b4],s1,hd,by simp [hj,hk,hl,hm],fun hb hm=>(by simp at hm;rcases hm with rfl|rfl|rfl|rfl;exact h1;exact h2;exact h3;exact h4),by
  subst e;subst hnx;rw [hy j k l m hd];exact hp,h⟩
end
end Go.Abs
