
import Derived.Test.YtllbdfllngpkaaaGreatLibE
import Derived.Laws.BytesArg
import Derived.Laws.IdiomStrings
set_option linter.all false
namespace Go.Abs
def dpV:V->Bool
 |.int _ _=>true
 |.bool _=>true
 |.str _=>true
 |.psl l _ _=>Nat.beq l 2
 |_=>false
section
variable {C:Ctx} {w:World} {h:List (Nat×HB)}
theorem repF_of {v:Value}{x:V}(h:Rep C w v x)(hd:dpV x=true)(hn:dpc x=false):RepF v x:=by
 cases x with
 |int k n=>cases h;exact .int _ _
 |bool b=>cases h;exact .bool _
 |str s=>cases h;exact .str _
 |psl l sz rows=>
  simp only [dpV,Nat.beq_eq]at hd;subst hd;simp [dpc]at hn
 |_=>simp [dpV]at hd
theorem ar9:∀{vs:List Value} {xs:List V} {S:List Nat},TopL w vs xs S->RepL C w vs xs->xs.all dpV=true->DeepL w vs xs S
 |_,_,_,.nil,_,_=>.nil
 |_,_,_,.other hn t,.cons hv hr,hd=>by
  simp only [List.all_cons,Bool.and_eq_true]at hd;exact .flat (repF_of hv hd.1 hn) (ar9 t hr hd.2)
 |_,_,_,.deep hv t,.cons _ hr,hd=>by
  simp only [List.all_cons,Bool.and_eq_true]at hd;exact .deep hv (ar9 t hr hd.2)
def InL (C:Ctx)(w:World)(cs:List Value)(sz:Nat)(rows:List (List V)):Prop:=
 ∀(i:Nat) row,rows[i]? =some row->∃ vs:List Value,vs.length=sz/\(∀ (j:Nat) v,vs[j]? =some v->cs[i * sz+j]? =some v)/\RepL C w vs row
theorem inL_of {cs:Array Value}{sz:Nat}{rows:List (List V)}(h:RowsIn C w cs sz rows):InL C w cs.toList sz rows:=by
 obtain⟨vals,hv⟩:=h;exact fun i row hi=>⟨vals i,(hv i row hi).1,fun j v hj=>by simpa using (hv i row hi).2.1 j v hj,(hv i row hi).2.2⟩
theorem deepR_of:∀{cs:List Value} {sz:Nat} {rows:List (List V)} {S:List Nat},TopR w cs sz rows S->InL C w cs sz rows->(∀ row∈rows,row.all dpV=true)->DeepR w cs sz rows S
 |_,_,_,_,.nil cs sz,_,_=>.nil cs sz
 |_,_,_,_,.cons (vs:=vs0) (cs:=cs) (sz:=sz) (row:=row) (rows:=rows) hl hh t,hin,hd=>by
  refine .cons hl (ar9 (C:=C) hh ?_ (hd row (by simp))) (deepR_of t (fun i r hi=>?_) fun r hr=>hd r (by simp [hr]))
  .obtain ⟨vs,h1,h2,h3⟩:=hin 0 row rfl;have e:vs=vs0:=by
    refine List.ext_getElem? fun j=>?_;rcases Nat.lt_or_ge j sz with hj|hj
    .have:=h2 j _ (List.getElem?_eq_getElem (l:=vs) (by omega));rw [Nat.zero_mul,Nat.zero_add,List.getElem?_append_left (by omega)]at this;rw [this,List.getElem?_eq_getElem (l:=vs) (by omega)]
    .rw [List.getElem?_eq_none (by omega),List.getElem?_eq_none (by omega)]
   rw [<- e];exact h3
  .obtain ⟨vs,h1,h2,h3⟩:=hin (i+1) r (by simpa using hi);refine ⟨vs,h1,fun j v hj=>?_,h3⟩;have:=h2 j v hj;rw [List.getElem?_append_right (by rw [Nat.succ_mul];omega)]at this;rw [<- this];congr 1;rw [Nat.succ_mul];omega
theorem ac0 {L:Loc}{v:Value}{S:List Nat}{rows:List (List V)}(hz:L.sz≠0)(hv:HSL L 0 rows.length v)(hb:Blk C w L rows)(hd:Deep w L S rows)(hdp:∀ row∈rows,row.all dpV=true):DeepV w v L.sz rows (L.blk.toList++S):=by
 unfold HSL at hv;cases hbk:L.blk with
 |none=>
  rw [hbk]at hv;simp only at hv;unfold Blk at hb;rw [hbk]at hb;unfold Deep at hd;rw [hbk]at hd;rw [hb.1,hv];have hd':S=[]:=hd;rw [hd'];exact .nil hz
 |some b=>
  rw [hbk]at hv;simp only [Nat.zero_mul,Nat.sub_zero]at hv;obtain ⟨cs,el,fz,g1,g2,g3,g4,g5⟩:=fQ hbk hz hb;obtain ⟨cs',el',fz',k1,k2⟩:=ah6 hbk hz hd;rw [g1]at k1;simp only [Option.some.injEq,Obj.cells.injEq]at k1;obtain ⟨rfl,rfl,rfl⟩:=k1;rw [hv.2];exact .own g1 g2 g3 g4 hz (deepR_of k2 (inL_of (dD g1 g5)) hdp)
theorem ae2 (h2:¬ C.lv 2)(hn:11<C.nx):∀{vs:List Value} {xs:List V} {S:List Nat},DeepL w vs xs S->RepL C w vs xs/\TopL w vs xs S/\xs.all dpV=true
 |_,_,_,.nil=>⟨.nil,.nil,rfl⟩
 |_,_,_,.flat (x:=x) h t=>by
  obtain⟨a1,a2,a3⟩:=ae2 h2 hn t;refine ⟨.cons (by cases h;exact .int _ _;exact .bool _;exact .str _) a1,.other h.nd a2,?_⟩;rw [List.all_cons,a3];cases h<;>rfl
 |_,_,_,.deep h t=>by
  obtain⟨a1,a2,a3⟩:=ae2 h2 hn t;exact ⟨.cons (.psld _ h2 (by omega)) a1,.deep h a2,by rw [List.all_cons,a3];rfl⟩
theorem deepR_rep (h2:¬ C.lv 2)(hn:11<C.nx):∀{cs:List Value} {sz:Nat} {rows:List (List V)} {S:List Nat},DeepR w cs sz rows S->InL C w cs sz rows/\TopR w cs sz rows S
 |_,_,_,_,.nil cs sz=>⟨fun i row hi=>by simp at hi,.nil cs sz⟩
 |_,_,_,_,.cons (vs:=vs) (cs:=cs) (sz:=sz) hl h t=>by
  obtain⟨a1,a2,_⟩:=ae2 h2 hn h;obtain ⟨b1,b2⟩:=deepR_rep h2 hn t;refine ⟨fun i row hi=>?_,.cons hl a2 b2⟩;cases i with
  |zero=>
   simp at hi;subst hi;refine ⟨vs,hl,fun j v hj=>?_,a1⟩;have:=(List.getElem?_eq_some_iff.1 hj).1;rw [Nat.zero_mul,Nat.zero_add,List.getElem?_append_left this];exact hj
  |succ i=>
   obtain⟨us,k1,k2,k3⟩:=b1 i row (by simpa using hi);refine ⟨us,k1,fun j v hj=>?_,k3⟩;rw [List.getElem?_append_right (by rw [Nat.succ_mul];omega),<- k2 j v hj];congr 1;rw [Nat.succ_mul];omega
theorem rowsIn_of {cs:Array Value}{sz:Nat}{rows:List (List V)}(h:InL C w cs.toList sz rows):RowsIn C w cs sz rows:=by
 have hex:∀ i:Nat,∃ vs:List Value,∀ row,rows[i]? =some row->vs.length=sz/\(∀ (j:Nat) v,vs[j]? =some v->cs.toList[i * sz+j]? =some v)/\RepL C w vs row:=fun i=>by
  cases hr:rows[i]? with
  |none=>exact⟨[],fun row h=>by cases h⟩
  |some r=>obtain⟨vs,a⟩:=h i r hr;exact⟨vs,fun row e=>by cases e;exact a⟩
 exact⟨fun i=>Classical.choose (hex i),fun i row hi=>by
  have:=Classical.choose_spec (hex i) row hi;exact ⟨this.1,fun j v hj=>by simpa using this.2.1 j v hj,this.2.2⟩⟩
theorem of_deepV (h2:¬ C.lv 2)(hn:11<C.nx){v:Value}{sz:Nat}{rows:List (List V)}{S:List Nat}(h:DeepV w v sz rows S):
 ∃(L:Loc) (S':List Nat),S=L.blk.toList++S'/\L.sz=sz/\sz≠0/\L.n=rows.length/\HSL L 0 rows.length v/\Blk C w L rows/\Deep w L S' rows:=by
 cases h with
 |nil hz=>exact⟨⟨none,sz,0,0⟩,[],rfl,rfl,hz,rfl,rfl,⟨rfl,rfl⟩,rfl⟩
 |own hh hs hle hfz hz hr=>
  rename_i b cap cs el fz S';obtain ⟨a1,a2⟩:=deepR_rep h2 hn hr;exact ⟨⟨some b,sz,rows.length,cap⟩,S',rfl,rfl,hz,rfl,⟨hz,by simp⟩,ad4 rfl hz ⟨cs,el,fz,hh,hs,hle,hfz,mJ hh (rowsIn_of a1)⟩,pS rfl hz ⟨cs,el,fz,hh,a2⟩⟩
theorem topL_one {v:Value}{vs:List Value}{y:V}{ys:List V}{S S':List Nat}(h:TopL w [v] [y] S)(t:TopL w vs ys S'):TopL w (v::vs) (y::ys) (S++S'):=h.append t
theorem TopL.at {x:V}{suf:List V}:∀{pre:List V} {vs:List Value} {S:List Nat},TopL w vs (pre++x::suf) S->
 ∃ v S1 S2 S3,S=S1++(S2++S3)/\vs[pre.length]? =some v/\TopL w [v] [x] S2/\∀ y S2',TopL w [v] [y] S2'->TopL w vs (pre++y::suf) (S1++(S2'++S3))
 | [],vs,S,h=>by
  generalize e: []++x::suf=l at h;cases h with
  |nil=>cases e
  |other h t=>
   simp only [List.nil_append,List.cons.injEq]at e;obtain⟨rfl,rfl⟩:=e;exact ⟨_,[],[],S,rfl,rfl,.other h .nil,fun y S2' hy=>(topL_one (S:=S2') hy t:TopL w _ (y::_) (S2'++_))⟩
  |@deep _ _ _ _ _ Sa Sb h t=>
   simp only [List.nil_append,List.cons.injEq]at e;obtain⟨rfl,rfl⟩:=e;exact ⟨_,[],Sa,Sb,rfl,rfl,by have:=TopL.deep h .nil;rw [List.append_nil]at this;exact this,fun y S2' hy=>(topL_one (S:=S2') hy t:TopL w _ (y::_) (S2'++_))⟩
 |p::pre,vs,S,h=>by
  generalize e:p::pre++x::suf=l at h;cases h with
  |nil=>cases e
  |other h t=>
   simp only [List.cons_append,List.cons.injEq]at e;obtain⟨rfl,rfl⟩:=e;obtain ⟨v,S1,S2,S3,e,a1,a2,a3⟩:=TopL.at t;exact ⟨v,S1,S2,S3,e,by simpa using a1,a2,fun y S2' hy=>.other h (a3 y S2' hy)⟩
  |deep h t=>
   simp only [List.cons_append,List.cons.injEq]at e;obtain⟨rfl,rfl⟩:=e;rename_i S0 S0';obtain ⟨v,S1,S2,S3,e,a1,a2,a3⟩:=TopL.at t;exact ⟨v,S0++S1,S2,S3,by rw [e,List.append_assoc],by simpa using a1,a2,fun y S2' hy=>by rw [List.append_assoc];exact .deep h (a3 y S2' hy)⟩
theorem TopR.at {x:V}{pre suf:List V}{sz:Nat}:∀{cs:List Value} {rows:List (List V)} {S:List Nat} (i:Nat),TopR w cs sz rows S->rows[i]? =some (pre++x::suf)->
 ∃ v S1 S2 S3,S=S1++(S2++S3)/\cs[i * sz+pre.length]? =some v/\TopL w [v] [x] S2/\∀ y S2',TopL w [v] [y] S2'->TopR w cs sz (rows.set i (pre++y::suf)) (S1++(S2'++S3))
 |_,_,_,i,.nil cs _,h=>by simp at h
 |_,_,_,0,.cons (vs:=vs) (cs:=cs) (S:=Sa) (S':=Sb) hl hh t,h=>by
  simp at h;subst h;obtain ⟨v,S1,S2,S3,e,a1,a2,a3⟩:=hh.at;have hlt:=(List.getElem?_eq_some_iff.1 a1).1;refine ⟨v,S1,S2,S3++Sb,by rw [e];simp,?_,a2,fun y S2' hy=>?_⟩
  .rw [Nat.zero_mul,Nat.zero_add,List.getElem?_append_left hlt];exact a1
  .rw [List.set_cons_zero,show S1++(S2'++(S3++Sb))=(S1++(S2'++S3))++Sb by simp];exact .cons hl (a3 y S2' hy) t
 |_,_,_,i+1,.cons (vs:=vs) (cs:=cs) (S:=Sa) (S':=Sb) hl hh t,h=>by
  obtain⟨v,S1,S2,S3,e,a1,a2,a3⟩:=TopR.at i t (by simpa using h);refine ⟨v,Sa++S1,S2,S3,by rw [e];simp,?_,a2,fun y S2' hy=>?_⟩
  .rw [List.getElem?_append_right (by rw [Nat.succ_mul];omega),<- a1];congr 1;rw [Nat.succ_mul];omega
  .rw [List.set_cons_succ,List.append_assoc];exact .cons hl hh (a3 y S2' hy)
theorem repL_swap {C':Ctx}{w':World}(E:Ext C C' w w'){x y:V}{suf:List V}{v:Value}(hy:Rep C' w' v y):∀{pre:List V} {vs:List Value},RepL C w vs (pre++x::suf)->vs[pre.length]? =some v->RepL C' w' vs (pre++y::suf)
 | [],_,.cons h t,hv=>by simp at hv;subst hv;exact .cons hy (RepL.mono E t)
 |p::pre,_,.cons h t,hv=>.cons (h.mono E) (repL_swap E hy t (by simpa using hv))
theorem hst_cell (H:HSt C w h){u usz i:Nat}{rows:List (List V)}{pre suf:List V}{x:V}(hu:hget h u=some ⟨usz,rows⟩)(hz:usz≠0)(hrow:rows[i]? =some (pre++x::suf)):
 ∃ L v S1 S2 S3,C.loc u=some L/\L.sz=usz/\L.n=rows.length/\C.sub u=S1++(S2++S3)/\TopL w [v] [x] S2/\Rep C w v x/\
  ∀ C' y S2',Ext C C' w w->Rep C' w v y->TopL w [v] [y] S2'->Blk C' w L (rows.set i (pre++y::suf))/\Deep w L (S1++(S2'++S3)) (rows.set i (pre++y::suf)):=by
 obtain⟨L,e1,e2,e3,e4⟩:=H.ent u _ hu;have e2':L.sz=usz:=e2;subst e2';cases hbk:L.blk with
 |none=>
  unfold Blk at e4;rw [hbk]at e4;have:rows=[]:=e4.1;subst this;simp at hrow
 |some b=>
  obtain⟨cs,el,fz,g1,g2,g3,g4,vals,g5⟩:=fQ hbk hz e4;obtain ⟨cs',el',fz',k1,k2⟩:=ah6 hbk hz (H.sub.dp u _ L hu e1);rw [g1]at k1;simp only [Option.some.injEq,Obj.cells.injEq]at k1;obtain ⟨rfl,rfl,rfl⟩:=k1;obtain ⟨v,S1,S2,S3,q1,q2,q3,q4⟩:=k2.at i hrow;obtain ⟨r1,r2,r3⟩:=g5 i _ hrow;obtain ⟨v',s1,s2⟩:=r3.get pre.length x (by simp);have s3:=r2 pre.length v' s1;have ev:v'=v:=by
   simp only [World.cell?,g1,Nat.zero_add]at s3;rw [Array.getElem?_toList]at q2;have:cs[i * L.sz+pre.length]? =some v':=by simpa using s3
   rw [q2]at this;exact (Option.some.inj this).symm
  rw [ev]at s1 s2;refine ⟨L,v,S1,S2,S3,e1,rfl,e3,q1,q3,s2,fun C' y S2' E hy ht=>⟨?_,?_⟩⟩
  .refine ad4 hbk hz ⟨cs,el,fz,g1,g2,by simpa using g3,g4,vals,fun k row hk=>?_⟩;rw [List.getElem?_set]at hk;split at hk
   .rename_i hki;subst hki;split at hk
    .simp only [Option.some.injEq]at hk;subst hk;exact ⟨r1,r2,repL_swap E hy r3 s1⟩
    .cases hk
   .obtain ⟨t1,t2,t3⟩:=g5 k row hk;exact ⟨t1,t2,RepL.mono E t3⟩
  .exact pS hbk hz ⟨cs,el,fz,g1,q4 y S2' ht⟩
theorem hst_hget {h':List (Nat×HB)}(H:HSt C w h)(he:∀ x,hget h' x=hget h x):HSt C w h':=
 ⟨fun x hx=>H.dom x (by rw [<- he];exact hx),fun x q hx=>H.ent x q (by rw [<- he];exact hx),H.lt,H.inj,H.own,H.regs,H.lvs,H.rdis,H.zero,H.two,⟨fun x q L hx=>H.sub.dp x q L (by rw [<- he];exact hx),H.sub.s0,H.sub.nd,H.sub.lt,H.sub.root,H.sub.dis,H.sub.reg⟩,H.tab⟩
theorem topL_dp {v:Value}{sz:Nat}{rs:List (List V)}{S:List Nat}(h:TopL w [v] [.psl 2 sz rs] S):DeepV w v sz rs S:=by
 cases h with
 |other h _=>simp [dpc]at h
 |deep h t=>cases t;rw [List.append_nil];exact h
theorem vK (u:Nat)(S:List Nat):Ext C (C.under u S) w w:=⟨Nat.le_refl _,fun x L _ h=>⟨L,h,.inl rfl⟩,fun _ _ h=>h,fun _ _ _ _ h=>⟨h,rfl⟩⟩
theorem hst_recell (H:HSt C w h){u usz:Nat}{rows rows':List (List V)}{L:Loc}{S':List Nat}(hu:hget h u=some ⟨usz,rows⟩)(hL:C.loc u=some L)(hsz:L.sz=usz)(hn:L.n=rows'.length)(hS:S'.Sublist (C.sub u))(hb:Blk (C.under u S') w L rows')(hd:Deep w L S' rows'):
 HSt (C.under u S') w ((u,⟨usz,rows'⟩)::h)/\Fr C (C.under u S') w w:=by
 have E:=vK (C:=C) (w:=w) u S';have hsub:∀{x b},b∈(C.under u S').sub x->b∈C.sub x:=fun{x b} hb=>by
  simp only [Ctx.under]at hb;split at hb
  .rename_i e;rw [e];exact hS.subset hb
  .exact hb
 refine⟨⟨fun x hx=>?_,fun x q hx=>?_,H.lt,H.inj,H.own,H.regs,H.lvs,H.rdis,H.zero,H.two,⟨fun x q M hx hM=>?_,fun x hx=>?_,fun x=>?_,fun x b hb=>H.sub.lt x b (hsub hb),fun x b x' M hb=>H.sub.root x b x' M (hsub hb),fun x x' b hb hb'=>H.sub.dis x x' b (hsub hb) (hsub hb'),fun x b l hb=>H.sub.reg x b l (hsub hb)⟩,H.tabE E H.zero.1⟩,?_⟩
 .simp only [hget]at hx;rw [Bool.cond_eq_ite]at hx;split at hx
  .cases hx
  .exact H.dom x hx
 .simp only [hget]at hx;rw [Bool.cond_eq_ite]at hx;split at hx
  .rename_i he;rw [Nat.beq_eq]at he;subst he;simp only [Option.some.injEq]at hx;subst hx;exact ⟨L,hL,hsz,hn,hb⟩
  .obtain ⟨M,g1,g2,g3,g4⟩:=H.ent x q hx;exact ⟨M,g1,g2,g3,g4.mono E (fun _ _=>rfl)⟩
 .simp only [hget]at hx;rw [Bool.cond_eq_ite]at hx;split at hx
  .rename_i he;rw [Nat.beq_eq]at he;subst he;simp only [Option.some.injEq]at hx;subst hx;have hM':C.loc x=some M:=hM;rw [hL]at hM';simp only [Option.some.injEq]at hM';subst hM';simp only [Ctx.under,if_pos];exact hd
  .rename_i he;rw [Nat.beq_eq]at he;simp only [Ctx.under];rw [if_neg he];exact H.sub.dp x q M hx hM
 .simp only [Ctx.under]at hx |-;split
  .rename_i e;subst e;exact absurd hx (by rw [hL];simp)
  .exact H.sub.s0 x hx
 .simp only [Ctx.under];split
  .exact (H.sub.nd u).sublist hS
  .exact H.sub.nd x
 .refine ⟨Nat.le_refl _,fun _ _ _=>rfl,fun b hb=>?_,fun _ h=>h,fun _ h=>.inl h,rfl,rfl,fun x _ M h=>⟨M,h,.inl rfl⟩⟩;rcases hb with hb|hb|⟨x,hb⟩
  .exact .inl (.inl hb)
  .exact .inl (.inr (.inl hb))
  .exact .inl (.inr (.inr ⟨x,hsub hb⟩))
theorem hst_rerow (H:HSt C w h){u usz:Nat}{rows rows':List (List V)}{L:Loc}(hu:hget h u=some ⟨usz,rows⟩)(hL:C.loc u=some L)(hsz:L.sz=usz)(hn:L.n=rows'.length)(hb:Blk C w L rows')(hd:Deep w L (C.sub u) rows'):
 HSt C w ((u,⟨usz,rows'⟩)::h):=by
 refine⟨fun x hx=>?_,fun x q hx=>?_,H.lt,H.inj,H.own,H.regs,H.lvs,H.rdis,H.zero,H.two,⟨fun x q M hx hM=>?_,H.sub.s0,H.sub.nd,H.sub.lt,H.sub.root,H.sub.dis,H.sub.reg⟩,H.tab⟩
 .simp only [hget]at hx;rw [Bool.cond_eq_ite]at hx;split at hx
  .cases hx
  .exact H.dom x hx
 .simp only [hget]at hx;rw [Bool.cond_eq_ite]at hx;split at hx
  .rename_i he;rw [Nat.beq_eq]at he;subst he;simp only [Option.some.injEq]at hx;subst hx;exact ⟨L,hL,hsz,hn,hb⟩
  .exact H.ent x q hx
 .simp only [hget]at hx;rw [Bool.cond_eq_ite]at hx;split at hx
  .rename_i he;rw [Nat.beq_eq]at he;subst he;simp only [Option.some.injEq]at hx;subst hx;rw [hL]at hM;simp only [Option.some.injEq]at hM;subst hM;exact hd
  .exact H.sub.dp x q M hx hM
theorem hst_open (H:HSt C w h){u usz i sz:Nat}{rows rs:List (List V)}{pre suf:List V}(hu:hget h u=some ⟨usz,rows⟩)(hz:usz≠0)(hrow:rows[i]? =some (pre++ .psl 2 sz rs::suf)):
 ∃ C',HSt C' w ((u,⟨usz,rows.set i (pre++ .hsl C.nx 0 rs.length::suf)⟩)::(C.nx,⟨sz,rs⟩)::h)/\Ext C C' w w/\Fr C C' w w/\C'.nx=C.nx+1/\C'.lv=C.lv:=by
 obtain⟨L,v,S1,S2,S3,a1,a2,a3,a4,a5,a6,a7⟩:=hst_cell H hu hz hrow;have hdv:=topL_dp a5;obtain ⟨L2,S2',b1,b2,b3,b4,b5,b6,b7⟩:=of_deepV (C:=C) H.zero.2.2 H.two hdv;have hnd:=H.sub.nd u;rw [a4]at hnd;have hux:=H.lt u L a1;have hS:(S1++(([]:List Nat)++S3)).Sublist (C.sub u):=by rw [a4];exact sub_put
 obtain⟨c1,c2⟩:=a7 (C.under u (S1++([]++S3))) .junk [] (vK _ _) (.junk _) (.other rfl .nil);obtain ⟨H1,F1⟩:=hst_recell H hu a1 a2 (by rw [a3];simp) hS c1 c2;have hin2:∀ b,InP (L2,S2') b->b∈S2:=fun b hb=>by
  rw [b1];rcases hb with hb|hb
  .exact List.mem_append_left _ (by simpa using hb)
  .exact List.mem_append_right _ hb
 have hS2:∀ b∈S2,b∈C.sub u:=fun b hb=>by rw [a4];exact List.mem_append_right _ (List.mem_append_left _ hb)
 have hu2:∀ b∈S2,Untr (C.under u (S1++([]++S3))) b:=fun b hb=>by
  have hbu:=hS2 b hb;refine ⟨fun ho=>?_,fun l hl hr=>H.sub.reg u b l hbu hl hr⟩;rcases ho with ⟨x,M,h1,h2⟩|⟨l,_,hl,hr⟩|⟨x,h1⟩
  .exact H.sub.root u b x M hbu h1 h2
  .exact H.sub.reg u b l hbu hl hr
  .simp only [Ctx.under]at h1;split at h1
   .have hno:b∉S1++([]++S3):=by
     rw [List.nodup_append]at hnd;obtain ⟨_,n2,n3⟩:=hnd;rw [List.nodup_append]at n2;obtain ⟨_,_,n4⟩:=n2;intro h;rcases List.mem_append.1 h with h|h
     .exact n3 b h b (List.mem_append_left _ hb) rfl
     .exact n4 b hb b (by simpa using h) rfl
    exact hno h1
   .rename_i hne;exact hne (H.sub.dis x u b h1 hbu)
 have hndS2:(L2.blk.toList++S2').Nodup:=by
  rw [<- b1];rw [List.nodup_append]at hnd;exact (List.nodup_append.1 hnd.2.1).1
 have P2:PrivS (C.under u (S1++([]++S3))) w L2 S2' rs:=⟨b6.mono (vK _ _) (fun _ _=>rfl),b4,fun b hb=>hu2 b (hin2 b (.inl hb)),b7,(List.nodup_append.1 hndS2).2.1,fun b hb=>⟨hu2 b (hin2 b (.inr hb)),fun e=>(List.nodup_append.1 hndS2).2.2 b (by rw [e];simp) b hb rfl,H.sub.lt u b (hS2 b (hin2 b (.inr hb)))⟩⟩
 obtain⟨H2,E2⟩:=yI H1 P2;have hnx1:(C.under u (S1++([]++S3))).nx=C.nx:=rfl;rw [hnx1]at H2 E2;have E02:Ext C (((C.under u (S1++([]++S3))).set C.nx L2 (C.nx+1)).under C.nx S2') w w:=(vK _ _).trans E2;obtain ⟨d1,d2⟩:=a7 _ (.hsl C.nx 0 rs.length) [] E02 (.hsl (Nat.lt_succ_self _) fun L' hL'=>by
  simp only [Ctx.under,Ctx.set,if_pos,Option.some.injEq]at hL';subst hL';exact ⟨by omega,fun _=>b5⟩) (.other rfl .nil)
 have hne:u≠C.nx:=by omega
 have H3:=hst_rerow H2 (u:=u) (rows':=rows.set i (pre++ .hsl C.nx 0 rs.length::suf)) (L:=L) (by
  simp only [hget,Bool.cond_eq_ite];rw [if_neg (by rw [Nat.beq_eq];exact hne),if_pos (by simp)]) (by simp only [Ctx.under,Ctx.set];rw [if_neg hne];exact a1) a2 (by rw [a3];simp) d1 (by simp only [Ctx.under,Ctx.set];rw [if_neg hne];simp only [if_true];exact d2)
 have ef:∀ b,Own (((C.under u (S1++([]++S3))).set C.nx L2 (C.nx+1)).under C.nx S2') b->Own C b:=fun b ho=>by
  rcases ho with ⟨x,M,h1,h2⟩|ho|⟨x,h1⟩
  .simp only [Ctx.under,Ctx.set]at h1;split at h1
   .simp only [Option.some.injEq]at h1;subst h1;exact .inr (.inr ⟨u,hS2 b (hin2 b (.inl h2))⟩)
   .exact .inl ⟨x,M,h1,h2⟩
  .exact .inr (.inl ho)
  .simp only [Ctx.under,Ctx.set]at h1;split at h1
   .exact .inr (.inr ⟨u,hS2 b (hin2 b (.inr h1))⟩)
   .split at h1
    .exact .inr (.inr ⟨u,hS.subset h1⟩)
    .exact .inr (.inr ⟨x,h1⟩)
 refine⟨_,hst_hget H3 fun x=>?_,E02,⟨Nat.le_refl _,fun _ _ _=>rfl,fun b hb=>.inl (ef b hb),fun _ h=>h,fun _ h=>.inl h,rfl,rfl,fun x hx M h=>?_⟩,rfl,rfl⟩
 .simp only [hget,Bool.cond_eq_ite];rw [b2];split
  .rfl
  .rename_i h1;split<;>rfl
 .have:=H.two;simp only [Ctx.under,Ctx.set]at h;rw [if_neg (by omega)]at h;exact ⟨M,h,.inl rfl⟩
theorem hst_close (H:HSt C w h){u v usz i sz:Nat}{rows rs:List (List V)}{pre suf:List V}(hu:hget h u=some ⟨usz,rows⟩)(hz:usz≠0)(hv:hget h v=some ⟨sz,rs⟩)(hsz:sz≠0)(huv:u≠v)(hrow:rows[i]? =some (pre++ .hsl v 0 rs.length::suf))(hdp:∀ row∈rs,row.all dpV=true):
 ∃ C',HSt C' w ((u,⟨usz,rows.set i (pre++ .psl 2 sz rs::suf)⟩)::hdel v h)/\Ext C C' w w/\Fr C C' w w/\C'.nx=C.nx/\C'.lv=C.lv:=by
 obtain⟨L,val,S1,S2,S3,a1,a2,a3,a4,a5,a6,a7⟩:=hst_cell H hu hz hrow;have e2:S2=[]:=by
  cases a5 with
  |other _ t=>cases t;rfl
 subst e2;obtain ⟨M,m1,m2,m3,m4⟩:=H.ent v _ hv;have m2':M.sz=sz:=m2;have hv1:HSL M 0 rs.length val:=by
  cases a6 with
  |hsl _ hh=>exact(hh M m1).2 (by rw [m3];simp)
 have hdv:DeepV w val sz rs (M.blk.toList++C.sub v):=by
  have:=ac0 (by rw [m2'];exact hsz) hv1 m4 (H.sub.dp v _ M hv m1) hdp;rw [m2']at this;exact this
 have hHv:∀ b,b∈M.blk.toList++C.sub v->Has C v b:=fun b hb=>by
  rcases List.mem_append.1 hb with hb|hb
  .exact .inl ⟨M,m1,by simpa using hb⟩
  .exact .inr hb
 let C':Ctx:={ C with loc:=fun x=>if x=v then none else C.loc x,sub:=fun x=>if x=v then []else if x=u then S1++((M.blk.toList++C.sub v)++S3)else C.sub x }
 have hloc:∀{x N},C'.loc x=some N->x≠v/\C.loc x=some N:=fun{x N} hx=>by
  simp only [C']at hx;split at hx
  .cases hx
  .exact ⟨by assumption,hx⟩
 have hsub:∀{x b},b∈C'.sub x->(x=u/\Has C v b)\/(x≠v/\b∈C.sub x):=fun{x b} hb=>by
  simp only [C']at hb;split at hb
  .cases hb
  .rename_i hxv;split at hb
   .rename_i hxu;subst hxu;rcases List.mem_append.1 hb with hb|hb
    .exact .inr ⟨hxv,by rw [a4];exact List.mem_append_left _ hb⟩
    .rcases List.mem_append.1 hb with hb|hb
     .exact .inl ⟨rfl,hHv b hb⟩
     .exact .inr ⟨hxv,by rw [a4];exact List.mem_append_right _ hb⟩
   .exact .inr ⟨hxv,hb⟩
 have E:Ext C C' w w:=⟨Nat.le_refl _,fun x N _ hx=>⟨N,(hloc hx).2,.inl rfl⟩,fun _ _ h=>h,fun _ _ _ _ h=>⟨h,rfl⟩⟩
 obtain⟨c1,c2⟩:=a7 C' (.psl 2 sz rs) (M.blk.toList++C.sub v) E (.psld _ H.zero.2.2 (Nat.lt_of_lt_of_le (by omega:2<12) H.two)) (by have:=TopL.deep hdv .nil;rw [List.append_nil]at this;exact this);have hsu:C'.sub u=S1++((M.blk.toList++C.sub v)++S3):=by simp only [C'];rw [if_neg huv];simp only [if_true]
 have hget':∀ x,hget ((u,⟨usz,rows.set i (pre++ .psl 2 sz rs::suf)⟩)::hdel v h) x=if x=u then some ⟨usz,rows.set i (pre++ .psl 2 sz rs::suf)⟩else if x=v then none else hget h x:=fun x=>by
  simp only [hget,Bool.cond_eq_ite,O0,Nat.beq_eq]
 have hnd:(C'.sub u).Nodup:=by
  have n1:=H.sub.nd u;rw [a4,List.nil_append]at n1;rw [hsu];have n1':=List.nodup_append.1 n1;have n2:(M.blk.toList++C.sub v).Nodup:=by
   refine List.nodup_append.2 ⟨by cases M.blk<;>simp,H.sub.nd v,fun a ha b hb e=>?_⟩;subst e;exact H.sub.root v a v M hb m1 (by simpa using ha)
  have dj:∀ a∈C.sub u,∀ b∈M.blk.toList++C.sub v,a≠b:=fun a ha b hb e=>by
   subst e;exact huv (H.has_inj (.inr ha) (hHv a hb))
  refine List.nodup_append.2 ⟨n1'.1,List.nodup_append.2 ⟨n2,n1'.2.1,fun a ha b hb e=>?_⟩,fun a ha b hb e=>?_⟩
  .exact dj b (by rw [a4];exact List.mem_append_right _ (by simpa using hb)) a ha e.symm
  .rcases List.mem_append.1 hb with hb|hb
   .exact dj a (by rw [a4];exact List.mem_append_left _ ha) b hb e
   .exact n1'.2.2 a ha b hb e
 refine⟨C',⟨fun x hx=>?_,fun x q hx=>?_,fun x N hN=>H.lt x N (hloc hN).2,fun x x' N N' b h1 h2 h3 h4=>H.inj x x' N N' b (hloc h1).2 (hloc h2).2 h3 h4,fun x N b l h1=>H.own x N b l (hloc h1).2,H.regs,H.lvs,H.rdis,H.zero,H.two,
  ⟨fun x q N hx hN=>?_,fun x hx=>?_,fun x=>?_,fun x b hb=>?_,fun x b x' N hb h1 h2=>?_,fun x x' b hb hb'=>?_,fun x b l hb h1 h2=>?_⟩,H.tabE E H.zero.1⟩,E,⟨Nat.le_refl _,fun _ _ _=>rfl,fun b hb=>?_,fun _ h=>h,fun _ h=>.inl h,rfl,rfl,fun x _ N hN=>⟨N,(hloc hN).2,.inl rfl⟩⟩,rfl,rfl⟩
 .rw [hget']at hx;split at hx
  .cases hx
  .simp only [C'];split at hx
   .rename_i e;rw [if_pos e]
   .rename_i e;rw [if_neg e];exact H.dom x hx
 .rw [hget']at hx;split at hx
  .rename_i e;subst e;simp only [Option.some.injEq]at hx;subst hx;exact ⟨L,by simp only [C'];rw [if_neg huv];exact a1,a2,by rw [a3];simp,c1⟩
  .split at hx
   .cases hx
   .rename_i e1 e2;obtain ⟨N,g1,g2,g3,g4⟩:=H.ent x q hx;exact ⟨N,by simp only [C'];rw [if_neg e2];exact g1,g2,g3,g4.mono E (fun _ _=>rfl)⟩
 .rw [hget']at hx;have hN':=(hloc hN).2;split at hx
  .rename_i e;subst e;simp only [Option.some.injEq]at hx;subst hx;rw [a1]at hN';simp only [Option.some.injEq]at hN';subst hN';rw [hsu];exact c2
  .split at hx
   .cases hx
   .rename_i e1 e2;have:C'.sub x=C.sub x:=by simp only [C'];rw [if_neg e2,if_neg e1]
    rw [this];exact H.sub.dp x q N hx hN'
 .simp only [C']at hx |-;split at hx
  .rename_i e;rw [if_pos e]
  .rename_i e;rw [if_neg e];split
   .rename_i e2;subst e2;rw [a1]at hx;cases hx
   .exact H.sub.s0 x hx
 .by_cases e:x=u
  .rw [e];exact hnd
  .simp only [C'];split
   .exact .nil
   .first|exact H.sub.nd x|(rw [if_neg e];exact H.sub.nd x)
 .rcases hsub hb with ⟨_,hb⟩|⟨_,hb⟩
  .exact H.has_lt hb
  .exact H.sub.lt x b hb
 .obtain ⟨k1,k2⟩:=hloc h1;rcases hsub hb with ⟨_,hb⟩|⟨_,hb⟩
  .exact k1 (H.has_inj (.inl ⟨N,k2,h2⟩) hb)
  .exact H.sub.root x b x' N hb k2 h2
 .rcases hsub hb with ⟨e1,hb⟩|⟨e1,hb⟩<;>rcases hsub hb' with ⟨e2,hb'⟩|⟨e2,hb'⟩
  .rw [e1,e2]
  .exact absurd (H.has_inj (.inr hb') hb) e2
  .exact absurd (H.has_inj (.inr hb) hb') e1
  .exact H.sub.dis x x' b hb hb'
 .rcases hsub hb with ⟨_,hb⟩|⟨_,hb⟩
  .exact H.has_reg hb h1 h2
  .exact H.sub.reg x b l hb h1 h2
 .rcases hb with ⟨x,N,h1,h2⟩|hb|⟨x,hb⟩
  .exact .inl (.inl ⟨x,N,(hloc h1).2,h2⟩)
  .exact .inl (.inr (.inl hb))
  .rcases hsub hb with ⟨_,hb⟩|⟨_,hb⟩
   .exact .inl hb.own
   .exact .inl (.inr (.inr ⟨x,hb⟩))
end
section
variable {s s':St}
def St.opened:St->Nat->Nat->List (List V)->Nat->List (List V)->St
 |⟨env,heap,nx,n,lv⟩,u,usz,rows,sz,rs=>⟨env,(u,⟨usz,rows⟩)::(nx,⟨sz,rs⟩)::heap,nx+1,n,lv⟩
def St.closed:St->Nat->Nat->Nat->List (List V)->St
 |⟨env,heap,nx,n,lv⟩,u,v,usz,rows=>⟨env,(u,⟨usz,rows⟩)::hdel v heap,nx,n,lv⟩
theorem le_open (u i:Nat){usz sz nx:Nat}{rows rows' rs:List (List V)}(pre suf:List V)(hnx:s.nx=nx)(hu:hget s.heap u=some ⟨usz,rows⟩)(hz:Nat.beq usz 0=false)(hrow:rows[i]? =some (pre++ .psl 2 sz rs::suf))(hr:rows.set i (pre++ .hsl nx 0 rs.length::suf)=rows')(hs':s.opened u usz rows' sz rs=s'):Le s s':=fun C w a hs=>by
 subst hs';subst hr;subst hnx;obtain ⟨C',h1,h2,h3,h4,h5⟩:=hst_open hs.heap hu (fun e=>by subst e;simp at hz) hrow;have hnx:C.nx=s.nx:=hs.nx;rw [hnx]at h1 h4;cases s with
 |mk env heap nx n lv=>exact⟨C',⟨hs.defers,hs.size,h4,fun j=>(hs.env j).mono h2,h1,by rw [h5];exact hs.lv⟩,h3⟩
theorem le_close (u v i:Nat){usz sz:Nat}{rows rows' rs:List (List V)}(pre suf:List V)(hu:hget s.heap u=some ⟨usz,rows⟩)(hz:Nat.beq usz 0=false)(hv:hget s.heap v=some ⟨sz,rs⟩)(hsz:Nat.beq sz 0=false)(huv:Nat.beq u v=false)(hrow:rows[i]? =some (pre++ .hsl v 0 rs.length::suf))(hdp:∀ row∈rs,row.all dpV=true)(hr:rows.set i (pre++ .psl 2 sz rs::suf)=rows')(hs':s.closed u v usz rows'=s'):Le s s':=fun C w a hs=>by
 subst hs';subst hr;obtain ⟨C',h1,h2,h3,h4,h5⟩:=hst_close hs.heap hu (fun e=>by subst e;simp at hz) hv (fun e=>by subst e;simp at hsz) (fun e=>by subst e;simp at huv) hrow hdp;cases s with
 |mk env heap nx n lv=>exact⟨C',⟨hs.defers,hs.size,by rw [h4];exact hs.nx,fun j=>(hs.env j).mono h2,h1,by rw [h5];exact hs.lv⟩,h3⟩
theorem D9 (u:Nat){usz:Nat}{rows rows':List (List V)}(hu:hget s.heap u=some ⟨usz,rows⟩)(hr:rows=rows')(hs':s.wr u ⟨usz,rows'⟩=s'):Le s s':=tX fun C w a hs=>by
 subst hs';subst hr;have hd:=hst_dup hs.heap hu;cases s with
 |mk env heap nx n lv=>exact⟨hs.defers,hs.size,hs.nx,hs.env,hd,hs.lv⟩
end
end Go.Abs

namespace Go.Abs
def RdV (s:St)(x x':V):Prop:=∀ C w a,StRep C w a s->∀ v,Rep C w v x->Rep (C.callee (·<w.heap.size)) w v x'
def RdL (s:St):List V->List V->Prop
 | [],[]=>True
 |x::xs,y::ys=>RdV s x y/\RdL s xs ys
 |_,_=>False
section
variable {s:St}
theorem t4:RdL s [] []:=trivial
theorem j9 {x y:V}{xs ys:List V}(h:RdV s x y)(t:RdL s xs ys):RdL s (x::xs) (y::ys):=⟨h,t⟩
theorem av3 {C:Ctx}{w:World}{a:Act}(hs:StRep C w a s):∀{vs:List Value} {xs ys:List V},RdL s xs ys->RepL C w vs xs->RepL (C.callee (·<w.heap.size)) w vs ys
 |_,[],[],_,.nil=>.nil
 |_,x::xs,y::ys,h,.cons hv t=>.cons (h.1 C w a hs _ hv) (av3 hs h.2 t)
 |_,[],_::_,h,_=>h.elim
 |_,_::_,[],h,_=>h.elim
theorem callee_rl {C:Ctx}{w:World}{a:Act}(hs:StRep C w a s):Rl (f0 s) C (C.callee (·<w.heap.size)) w w:=by
 refine⟨fun l _=>?_,fun l _ hl=>?_,fun l b _ hl hb=>⟨?_,rfl⟩⟩
 .show f0 s l<12;unfold f0;cases s.live l<;>decide
 .cases hlv:s.live l
  .simp only [f0,hlv,cond_false]at hl;exact absurd hl (by show ¬ 2<=1;omega)
  .exact hs.live hlv
 .cases hlv:s.live l
  .simp only [f0,hlv,cond_false]at hl;exact absurd hl (by show ¬ 2<=1;omega)
  .exact ⟨by simp [f0,hlv],hs.heap.regs l b (hs.live hlv) hb⟩
theorem B4 {x x':V}(h:x.rl (f0 s)=x'):RdV s x x':=fun C w a hs v hv=>by rw [<- h];exact Rep.rl (callee_rl hs) hv
theorem kE {cs ds:List V}(h:RdL s cs ds):RdV s (.agg cs) (.agg ds):=fun C w a hs v hv=>by
 cases hv with |agg hl=>exact .agg (av3 hs h hl)
theorem rd_nil {sz:Nat}:RdV s .nilsl (.psl 0 sz []):=fun C w a hs v hv=>by
 cases hv;exact .psl0 _ _ _ _
mutual
theorem DeepV.rep {C:Ctx}{w:World}{k:Nat}(hk:C.lv k)(hn:k<C.nx):∀{v:Value} {sz:Nat} {rows:List (List V)} {S:List Nat},(∀ b∈S,C.reg k b)->DeepV w v sz rows S->Rep C w v (.psl k sz (V.rlR (fun _=>k) rows))
 |_,_,_,_,_,.nil _=>.psl0 _ _ _ _
 |_,_,_,_,hS,.own (cs:=cs) (rows:=rows) hh hs hle hfz hz hr=>by
  obtain⟨vals,hv⟩:=rowsIn_of (cs:=cs) (DeepR.rep hk hn (fun b hb=>hS b (List.mem_cons_of_mem _ hb)) hr);have hlen:(V.rlR (fun _=>k) rows).length=rows.length:=by rw [zP,List.length_map]
  refine .psl (off:=0) vals hk hn (hS _ (List.mem_cons_self ..)) hlen.symm hle (fun i row hi=>⟨(hv i row hi).1,fun j v hj=>?_⟩) (fun i row hi=>(hv i row hi).2.2);have:=(hv i row hi).2.1 j v hj;simp only [World.cell?,hh,Nat.zero_add];simpa using this
theorem DeepR.rep {C:Ctx}{w:World}{k:Nat}(hk:C.lv k)(hn:k<C.nx):∀{cs:List Value} {sz:Nat} {rows:List (List V)} {S:List Nat},(∀ b∈S,C.reg k b)->DeepR w cs sz rows S->InL C w cs sz (V.rlR (fun _=>k) rows)
 |_,_,_,_,_,.nil _ _=>fun i row hi=>by simp [V.rlR]at hi
 |_,_,_,_,hS,.cons (vs:=vs) hl h t=>fun i row hi=>by
  cases i with
  |zero=>
   simp only [V.rlR,List.getElem?_cons_zero,Option.some.injEq]at hi;subst hi;refine ⟨vs,hl,fun j v hj=>?_,DeepL.rep hk hn (fun b hb=>hS b (List.mem_append_left _ hb)) h⟩;have:=(List.getElem?_eq_some_iff.1 hj).1;rw [Nat.zero_mul,Nat.zero_add,List.getElem?_append_left this];exact hj
  |succ i=>
   obtain⟨us,k1,k2,k3⟩:=DeepR.rep hk hn (fun b hb=>hS b (List.mem_append_right _ hb)) t i row (by simpa [V.rlR]using hi);refine ⟨us,k1,fun j v hj=>?_,k3⟩;rw [List.getElem?_append_right (by rw [Nat.succ_mul];omega),<- k2 j v hj];congr 1;rw [Nat.succ_mul];omega
theorem DeepL.rep {C:Ctx}{w:World}{k:Nat}(hk:C.lv k)(hn:k<C.nx):∀{vs:List Value} {xs:List V} {S:List Nat},(∀ b∈S,C.reg k b)->DeepL w vs xs S->RepL C w vs (V.rlL (fun _=>k) xs)
 |_,_,_,_,.nil=>.nil
 |_,_,_,hS,.flat h t=>by
  refine .cons ?_ (DeepL.rep hk hn hS t);rw [h.rl];cases h
  .exact .int _ _
  .exact .bool _
  .exact .str _
 |_,_,_,hS,.deep h t=>.cons (DeepV.rep hk hn (fun b hb=>hS b (List.mem_append_left _ hb)) h) (DeepL.rep hk hn (fun b hb=>hS b (List.mem_append_right _ hb)) t)
end
theorem dX {u n sz:Nat}{rows rows':List (List V)}(hu:hget s.heap u=some ⟨sz,rows⟩)(hn:n=rows.length)(hz:Nat.beq sz 0=false)(hdp:∀ row∈rows,row.all dpV=true)(hr:V.rlR (fun _=>0) rows=rows'):RdV s (.hsl u 0 n) (.psl 0 sz rows'):=fun C w a hs v hv=>by
 subst hr;obtain ⟨L,h1,h2,h3,h4,h5⟩:=aO hs.heap hv hu (by show 0+n=rows.length;omega);have h2':L.sz=sz:=h2;subst hn;have hd:=ac0 (by rw [h2'];intro e;subst e;simp at hz) h5 h4 (hs.heap.sub.dp u _ L hu h1) hdp;rw [h2']at hd;refine DeepV.rep (k:=0) (Nat.zero_le _) (by show 0<12;omega) (fun b hb=>⟨rfl,?_⟩) hd;rcases List.mem_append.1 hb with hb|hb
 .exact hs.heap.rootlt h1 (by simpa using hb)
 .exact hs.heap.sub.lt u b hb
theorem w9 {u n sz:Nat}{rows rows':List (List V)}(hu:hget s.heap u=some ⟨sz,rows⟩)(hn:n=rows.length)(hr:V.rlR (f0 s) rows=rows'):RdV s (.hsl u 0 n) (.psl 0 sz rows'):=fun C w a hs v hv=>by
 subst hr;obtain ⟨L,h1,h2,h3,h4,h5⟩:=aO hs.heap hv hu (by show 0+n=rows.length;omega);have h2':L.sz=sz:=h2;subst hn;unfold HSL at h5;cases hbk:L.blk with
 |none=>
  rw [hbk]at h5;simp only at h5;unfold Blk at h4;rw [hbk]at h4;have:rows=[]:=h4.1;subst this;rw [h5];exact .psl0 _ _ _ _
 |some b=>
  rw [hbk]at h5;simp only [Nat.zero_mul,Nat.sub_zero]at h5;obtain ⟨cs,el,fz,g1,g2,g3,g4,vals,g5⟩:=fQ hbk h5.1 h4;rw [h5.2];have hlen:(V.rlR (f0 s) rows).length=rows.length:=by rw [zP,List.length_map]
  refine .psl (off:=0) vals (Nat.zero_le _) (by show 0<12;omega) ⟨rfl,hs.heap.rootlt h1 hbk⟩ hlen.symm g3 (fun i row hi=>?_) (fun i row hi=>?_)
  .obtain ⟨r,k1,_⟩:=qJ _ _ i row hi;rw [<- h2'];exact ⟨(g5 i r k1).1,(g5 i r k1).2.1⟩
  .obtain ⟨r,k1,rfl⟩:=qJ _ _ i row hi;exact RepL.rl (callee_rl hs) (g5 i r k1).2.2
end
theorem back_rl {C C2:Ctx}{w w':World}{H h2:List (Nat×HB)}{G:Nat->Prop}(hs:HSt C w H)(F:Fr (C.callee G) C2 w w')(e2:HSt C2 w' h2):Rl f01 C2 (C.back C2 w) w' w':=by
 refine⟨fun l _=>?_,fun l _ hl=>?_,fun l b _ hl hb=>⟨?_,rfl⟩⟩
 .have:=hs.two;show f01 l<C.nx;unfold f01;cases Nat.beq l 1<;>simp<;>omega
 .unfold f01 at hl;cases hb:Nat.beq l 1
  .rw [hb]at hl;exact absurd hl hs.zero.2.2
  .rw [Nat.beq_eq]at hb;rw [hb];exact e2.zero.2.1
 .unfold f01 at hl |-;cases hb1:Nat.beq l 1
  .rw [hb1]at hl;exact absurd hl hs.zero.2.2
  .rw [Nat.beq_eq]at hb1;subst hb1;refine .inr ⟨rfl,hb,?_⟩;rcases F.r1 b hb with h|h|h
   .exact absurd h.1 (by omega)
   .rcases h with ⟨u,L,h,_⟩|⟨l,h1,h2,_⟩|⟨u,h⟩
    .simp [Ctx.callee]at h
    .have:l<=1:=h2;omega
    .cases h
   .exact h
theorem ao8 {C:Ctx}{G:Nat->Prop}{b:Nat}(h:Own (C.callee G) b):False:=by
 rcases h with ⟨u,L,h,_⟩|⟨l,h1,h2,_⟩|⟨u,h⟩
 .simp [Ctx.callee]at h
 .have:l<=1:=h2;omega
 .cases h
mutual
def V.rnA (g:Nat->Option Nat):V->V
 |.agg cs=>.agg (V.rnAL g cs)
 |.tup cs=>.tup (V.rnAL g cs)
 |.hsl u i len=>match g u with |some j=>.hsl j i len|none=>.junk
 |.mp u k=>match g u with |some j=>.mp j k|none=>.junk
 |x=>x.rl f01
def V.rnAL (g:Nat->Option Nat):List V->List V
 | []=>[]
 |x::xs=>V.rnA g x::V.rnAL g xs
end
mutual
theorem Rep.rnA {g:Nat->Option Nat}{C C':Ctx}{w w':World}(E:Rl f01 C C' w w')(hg:∀ u j,g u=some j->u<C.nx->j<C'.nx/\∀ L',C'.loc j=some L'->∃ L,C.loc u=some L/\(L'=L\/L.n<L'.n)):∀{v:Value} {x:V},Rep C w v x->Rep C' w' v (x.rnA g)
 |_,_,.int k n=>Rep.rl E (.int k n)
 |_,_,.bool b=>Rep.rl E (.bool b)
 |_,_,.str s=>Rep.rl E (.str s)
 |_,_,.agg h=>.agg (RepL.rnA E hg h)
 |_,_,.tup h=>.tup (RepL.rnA E hg h)
 |_,_,.psl0 a c l s=>Rep.rl E (.psl0 a c l s)
 |_,_,.psl vals hl hn hb hlen hcap hc hr=>Rep.rl E (.psl vals hl hn hb hlen hcap hc hr)
 |_,_,.psld v hl hn=>Rep.rl E (.psld v hl hn)
 |_,_,.hsl (u:=u) (i:=i) (len:=len) hu h=>by
  unfold V.rnA;split
  .rename_i j hj;obtain ⟨h1,h2⟩:=hg u j hj hu;refine .hsl h1 fun L' hL'=>?_;obtain ⟨L,hL,hor⟩:=h2 L' hL';have:=h L hL;rcases hor with rfl|hlt
   .exact this
   .exact ⟨by omega,fun he=>by omega⟩
  .exact .junk _
 |_,_,.nilsl=>Rep.rl E .nilsl
 |_,_,.nilm=>Rep.rl E .nilm
 |_,_,.ptr hu h=>Rep.rl E (.ptr hu h)
 |_,_,.mp (u:=u) hu h=>by
  unfold V.rnA;split
  .rename_i j hj;obtain ⟨h1,h2⟩:=hg u j hj hu;refine .mp h1 fun L' hL'=>?_;obtain ⟨L,hL,hor⟩:=h2 L' hL';have:=h L hL;rcases hor with rfl|hlt
   .exact this
   .exact ⟨by omega,fun he=>by omega⟩
  .exact .junk _
 |_,_,.pptr vals hl hn hb hc hr=>Rep.rl E (.pptr vals hl hn hb hc hr)
 |_,_,.pptrd v hl hn=>Rep.rl E (.pptrd v hl hn)
 |_,_,.nilp=>Rep.rl E .nilp
 |_,_,.fn f=>Rep.rl E (.fn f)
 |_,_,.junk v=>Rep.rl E (.junk v)
theorem RepL.rnA {g:Nat->Option Nat}{C C':Ctx}{w w':World}(E:Rl f01 C C' w w')(hg:∀ u j,g u=some j->u<C.nx->j<C'.nx/\∀ L',C'.loc j=some L'->∃ L,C.loc u=some L/\(L'=L\/L.n<L'.n)):∀{vs:List Value} {xs:List V},RepL C w vs xs->RepL C' w' vs (V.rnAL g xs)
 |_,_,.nil=>.nil
 |_,_,.cons h t=>.cons (Rep.rnA E hg h) (RepL.rnA E hg t)
end
mutual
theorem rnA_rl {g:Nat->Option Nat}:∀{x:V},x.rl f01=x->x.rnA g=x
 |.agg cs,h=>by
  simp only [V.rl,V.agg.injEq]at h;simp only [V.rnA,rnAL_rl h]
 |.tup cs,h=>by
  simp only [V.rl,V.tup.injEq]at h;simp only [V.rnA,rnAL_rl h]
 |.hsl _ _ _,h=>by simp [V.rl]at h
 |.ptr _ _ _ _,h=>by simp [V.rl]at h
 |.mp _ _,h=>by simp [V.rl]at h
 |.int _ _,_=>rfl
 |.bool _,_=>rfl
 |.str _,_=>rfl
 |.psl _ _ _,h=>h
 |.pptr _ _ _ _ _,h=>h
 |.nilsl,_=>rfl
 |.nilp,_=>rfl
 |.nilm,_=>rfl
 |.fn _,_=>rfl
 |.junk,_=>rfl
theorem rnAL_rl {g:Nat->Option Nat}:∀{xs:List V},V.rlL f01 xs=xs->V.rnAL g xs=xs
 | [],_=>rfl
 |x::xs,h=>by
  simp only [V.rlL,List.cons.injEq]at h;simp only [V.rnAL,rnA_rl h.1,rnAL_rl h.2]
end
def upJ (js:List Nat)(nx u:Nat):Option Nat:=(dn js u).map (nx+·)
theorem owns_back {s:St}{C C2:Ctx}{w w':World}{a:Act}{h2:List (Nat×HB)}{G:Nat->Prop}(hs:StRep C w a s)(F:Fr (C.callee G) C2 w w')(hst:HSt C2 w' h2){js:List Nat}{hbs:List HB}(hdj:distinct js=true)(hrows:js.map (hget h2)=hbs.map some)(hrl:∀ hb∈hbs,V.rlR f01 hb.rows=hb.rows):
 HSt (adoptL (C.back C2 w) (locs C2 js)) w' (heapL C.nx hbs s.heap)/\Ext C (adoptL (C.back C2 w) (locs C2 js)) w w'/\(adoptL (C.back C2 w) (locs C2 js)).nx=C.nx+js.length/\(adoptL (C.back C2 w) (locs C2 js)).lv=C.lv/\
  Fr C (adoptL (C.back C2 w) (locs C2 js)) w w'/\∀{v:Value} {x:V},Rep C2 w' v x->Rep (adoptL (C.back C2 w) (locs C2 js)) w' v (x.rnA (upJ js C.nx)):=by
 obtain⟨b1,b2⟩:=aq9 hs F hst;have A:=fL F;have R:=back_rl hs.heap F hst;have hlen:js.length=hbs.length:=by simpa using congrArg List.length hrows
 have hget':∀(i:Nat) j hb,js[i]? =some j->hbs[i]? =some hb->hget h2 j=some hb:=fun i j hb h1 h3=>by
  have:=congrArg (fun l=>l[i]?) hrows;simpa [h1,h3]using this
 have hsome:∀ j∈js,(hget h2 j).isSome=true:=fun j hj=>by
  obtain⟨i,hi⟩:=List.getElem?_of_mem hj;have hil:=(List.getElem?_eq_some_iff.1 hi).1;rw [hget' i j _ hi (List.getElem?_eq_getElem (by omega))];rfl
 have hnew:∀ j b,Has C2 j b->w.heap.size<=b:=fun j b hb=>by
  rcases F.own b hb.own with h|h
  .exact (ao8 h).elim
  .exact h
 obtain⟨a1,a2,a3,a4,a5,a6,a7,a8⟩:=sB (w:=w') (locs C2 js) hbs b1.heap (by simp [locs,hlen]) (fun i p hb hp hhb=>by
  simp only [locs,List.getElem?_map,Option.map_eq_some_iff]at hp;obtain ⟨j,hj,rfl⟩:=hp;have hg:=hget' i j hb hj hhb;obtain ⟨L,e1,e2,e3,e4⟩:=hst.ent j hb hg;rw [e1];have key:∀ b,Has C2 j b->Untr (C.back C2 w) b:=fun b hb=>by
   have hn:=hnew j b hb;refine ⟨fun ho=>?_,fun l hl hr=>?_⟩
   .have h1:Own C b:=by
     rcases ho with h|⟨l,k1,k2,k3⟩|h
     .exact .inl h
     .rcases k3 with k3|⟨e,_⟩
      .exact .inr (.inl ⟨l,k1,k2,k3⟩)
      .omega
     .exact .inr (.inr h)
    have:=hs.heap.ownlt h1;omega
   .rcases hr with hr|⟨rfl,hr,_⟩
    .have:=hs.heap.regs l b hl hr;omega
    .exact hst.has_reg hb hst.zero.2.1 hr
  have hr:=hrl hb (List.mem_of_getElem? hhb);refine ⟨⟨?_,e3,fun b hbk=>key b (.inl ⟨L,e1,hbk⟩),hst.sub.dp j hb L hg e1,hst.sub.nd j,fun b hb'=>⟨key b (.inr hb'),fun e=>hst.sub.root j b j L hb' e1 e,hst.sub.lt j b hb'⟩⟩,e2⟩;have hrow:∀(i:Nat) row,hb.rows[i]? =some row->V.rlL f01 row=row:=fun i row hi=>by
   have:=congrArg (fun l=>l[i]?) hr;simp only [zP,List.getElem?_map,hi,Option.map_some,Option.some.injEq]at this;first|exact this|(rw [rlL_eq];exact this)
  refine e4.imp rfl id (fun _ _=>rfl) (fun b hbk h5=>?_) fun ents he=>⟨ents,he,?_⟩
  .obtain ⟨vals,g5⟩:=h5;refine ⟨vals,fun i row hi=>⟨(g5 i row hi).1,(g5 i row hi).2.1,?_⟩⟩;have:=RepL.rl R (g5 i row hi).2.2;rw [hrow i row hi]at this;exact this
  .intro vs hv;have:=RepL.rl R hv;rw [hrow 0 ents (by rw [he];rfl)]at this;exact this) (vJ hst js hdj hsome)
 have hnx:(C.back C2 w).nx=C.nx:=rfl;rw [hnx]at a1 a3 a4 a5;have hlocs:(locs C2 js).length=js.length:=by simp [locs]
 rw [hlocs]at a3;have E:Ext C (C.back C2 w) w w':=⟨Nat.le_refl _,fun _ L _ h=>⟨L,h,.inl rfl⟩,fun _ _ h=>h,fun l b _ hl hb=>⟨.inl hb,A.2 b (hs.heap.regs l b hl hb)⟩⟩
 refine⟨a1,E.trans a2,a3,a7,⟨b2.size,b2.keep,fun b hb=>?_,fun b hb=>b2.r0 b (by rw [<- a6];exact hb),fun b hb=>b2.r1 b (by rw [<- a6];exact hb),b2.os,b2.out,fun u hu L' hL'=>?_⟩,fun{v x} hv=>Rep.rnA ⟨fun l hl=>?_,fun l hl hlv=>R.lv l hl (by rw [<- a7];exact hlv),fun l b hl hlv hb=>?_⟩ (fun u k hk hu=>?_) hv⟩
 .rcases a8 b hb with h1|⟨p,h1,h3⟩
  .exact b2.own b h1
  .obtain ⟨j,hj,rfl⟩:=List.mem_map.1 h1;obtain ⟨hb',e⟩:=Option.isSome_iff_exists.1 (hsome j hj);exact .inr (hnew j b (ag9 hst e h3))
 .have:=hs.heap.two;rw [a5 u (by omega)]at hL';exact b2.low u hu L' hL'
 .rw [a3];have:f01 l<C.nx:=R.lt l hl;omega
 .have:=R.reg l b hl (by rw [<- a7];exact hlv) hb;rw [a6];exact this
 .unfold upJ at hk;simp only [Option.map_eq_some_iff]at hk;obtain ⟨i,hi,rfl⟩:=hk;have hj:=cZ hi;have hil:=(List.getElem?_eq_some_iff.1 hj).1;refine ⟨by rw [a3];omega,fun L' hL'=>?_⟩;have:=a4 i ((C2.loc u).getD ⟨none,0,0,0⟩,C2.sub u) (by simp only [locs,List.getElem?_map,hj,Option.map_some]);rw [this]at hL';simp only [Option.some.injEq]at hL';obtain ⟨hb',e⟩:=Option.isSome_iff_exists.1 (hsome u (List.mem_of_getElem? hj));obtain ⟨L,e1,_⟩:=hst.ent u hb' e;rw [e1]at hL';exact ⟨L,e1,.inl hL'.symm⟩
section
variable {P:Program} {s s1:St} {ops:Array Oper} {f:FuncId} {args:List Operand} {args':List V} {tys:Array TypeId} {d:Option Nat} {ty:Nat} {pos:String} {af:Array Edge} {gu:Option (Nat×Bool)} {r:List Oper} {K:St->Prop}
theorem vE {R:V->List (Nat×HB)->Prop}(hc:FC P f args' [] 12 R)(hg:gd ops.toList s gu=some true)(hv:RdL s (evL s args) args')
 (hk:∀ x h2,R x h2->∃(js:List Nat) (hbs:List HB) (s1:St),distinct js=true/\js.map (hget h2)=hbs.map some/\(∀ hb∈hbs,V.rlR f01 hb.rows=hb.rows)/\
  ({ s with heap:=heapL s.nx hbs s.heap,nx:=s.nx+js.length }:St).put d (x.rnA (upJ js s.nx))=some s1/\AOps P ops r s1 K):
 AOps P ops (⟨d,.call ⟨.value (.func f),⟨args⟩,tys⟩,ty,pos,af,gu⟩::r) s K:=
 pQ hg hc.1 fun C w a hs=>by
  refine(hc.2 (C.callee (·<w.heap.size)) w ⟨args.map a.eval⟩ rfl (pR C w (fun b h=>h) hs.heap.tabC) (av3 hs hv (nM hs args))).mono ?_;rintro e w' ⟨v,C2,x,h2,rfl,e2,e3,e4,e5⟩;obtain ⟨js,hbs,s1,k1,k2,k3,p2,p3⟩:=hk x h2 e5;obtain ⟨a1,a2,a3,a4,a5,a6⟩:=owns_back hs e4 e2 k1 k2 k3;have hn2:C.nx=s.nx:=hs.nx;rw [hn2]at a1 a3;have a6':=a6 e3;rw [hn2]at a6';exact ⟨v,_,s1,rfl,W2 (s:={ s with heap:=heapL s.nx hbs s.heap,nx:=s.nx+js.length }) ⟨hs.defers,hs.size,a3,fun i=>(hs.env i).mono a2,a1,by rw [a4];exact hs.lv⟩ a6' p2,a5,p3⟩
theorem call_rd {x:V}(hc:FC P f args' [] 12 (fun y _=>y=x))(hg:gd ops.toList s gu=some true)(hv:RdL s (evL s args) args')(hx:x.rnA (fun _=>none)=x)(hp:s.put d x=some s1)(h:AOps P ops r s1 K):
 AOps P ops (⟨d,.call ⟨.value (.func f),⟨args⟩,tys⟩,ty,pos,af,gu⟩::r) s K:=
 vE hc hg hv fun y h2 hy=>⟨[],[],s1,rfl,rfl,fun hb hm=>(by cases hm),by
  subst hy;have e:upJ [] s.nx=fun _=>none:=by funext u;rfl
  rw [e,hx];cases s;exact hp,h⟩
theorem D4 {x:V}(hc:FC P f args' [] 12 (fun y _=>y=x))(hg:gd ops.toList s gu=some true)(hv:RdL s (evL s args) args')(hx:x.rl f01=x)(hp:s.put d x=some s1)(h:AOps P ops r s1 K):
 AOps P ops (⟨d,.call ⟨.value (.func f),⟨args⟩,tys⟩,ty,pos,af,gu⟩::r) s K:=
 call_rd hc hg hv (rnA_rl hx) hp h
theorem M4 {y:Nat->V}{b1:HB}(hc:FC P f args' [] 12 (fun x h2=>∃ j,x=y j/\hget h2 j=some b1))(hg:gd ops.toList s gu=some true)(hv:RdL s (evL s args) args')(h1:V.rlR f01 b1.rows=b1.rows){nx:Nat}(hnx:s.nx=nx)(hy:∀ j,(y j).rnA (upJ [j] nx)=y nx)
 (hp:({ s with heap:=(nx,b1)::s.heap,nx:=nx+1 }:St).put d (y nx)=some s1) (h:AOps P ops r s1 K):
 AOps P ops (⟨d,.call ⟨.value (.func f),⟨args⟩,tys⟩,ty,pos,af,gu⟩::r) s K:=
 vE hc hg hv fun x h2 ⟨j,e,hj⟩=>⟨[j],[b1],s1,rfl,by simp [hj],fun hb hm=>(by simp at hm;subst hm;exact h1),by
  subst e;subst hnx;rw [hy];exact hp,h⟩
theorem ad8 {y:Nat->Nat->Nat->V}{b1 b2 b3:HB}(hc:FC P f args' [] 12 (fun x h2=>∃ j k l,x=y j k l/\distinct [j,k,l]=true/\hget h2 j=some b1/\hget h2 k=some b2/\hget h2 l=some b3))(hg:gd ops.toList s gu=some true)(hv:RdL s (evL s args) args')(h1:V.rlR f01 b1.rows=b1.rows)(h2:V.rlR f01 b2.rows=b2.rows)(h3:V.rlR f01 b3.rows=b3.rows){nx:Nat}(hnx:s.nx=nx)
 (hy:∀ j k l,distinct [j,k,l]=true->(y j k l).rnA (upJ [j,k,l] nx)=y nx (nx+1) (nx+2))
 (hp:({ s with heap:=(nx+2,b3)::(nx+1,b2)::(nx,b1)::s.heap,nx:=nx+3 }:St).put d (y nx (nx+1) (nx+2))=some s1) (h:AOps P ops r s1 K):
 AOps P ops (⟨d,.call ⟨.value (.func f),⟨args⟩,tys⟩,ty,pos,af,gu⟩::r) s K:=
 vE hc hg hv fun x h2' ⟨j,k,l,e,hd,hj,hk,hl⟩=>⟨[j,k,l],[b1,b2,b3],s1,hd,by simp [hj,hk,hl],fun hb hm=>(by simp at hm;rcases hm with rfl|rfl|rfl;exact h1;exact h2;exact h3),by
  subst e;subst hnx;rw [hy j k l hd];exact hp,h⟩
end
theorem rn_tup {g:Nat->Option Nat}{xs ys:List V}(h:V.rnL g xs=ys):V.rn g (.tup xs)=.tup ys:=by simp only [V.rn,h]
theorem tJ {P:Program}{s:St}{ops:Array Oper}{f:FuncId}{args:List Operand}{args':List V}{tys:Array TypeId}{d:Option Nat}{ty:Nat}{pos:String}{af:Array Edge}{gu:Option (Nat×Bool)}{r:List Oper}{K:St->Prop}{s1:St}
 (u:Nat) {sz sz2:Nat} {rows0 rows2:List (List V)} {y y':V} (hc:FC P f args' [(0,⟨sz,rows0⟩)] 12 (fun x h2=>x=y/\hget h2 0=some ⟨sz2,rows2⟩)) (hg:gd ops.toList s gu=some true) (hv:V.rnL (dn [u]) (evL s args)=args')
 (hu:hget s.heap u=some ⟨sz,rows0⟩) (hin:rnR (dn [u]) rows0=rows0) (hy:y.rn ([u][·]?)=y') (hout:rnR ([u][·]?) rows2=rows2) (hp:(s.wr u ⟨sz2,rows2⟩).put d y'=some s1) (h:AOps P ops r s1 K):
 AOps P ops (⟨d,.call ⟨.value (.func f),⟨args⟩,tys⟩,ty,pos,af,gu⟩::r) s K:=by
 refine ad7 [u] hc hg rfl rfl hv ⟨fun j hj=>?_,fun j hb' hj=>?_⟩ fun x h2 hR=>⟨(u,⟨sz2,rows2⟩)::s.heap,s1,fun x=>⟨fun j hj=>?_,fun hj=>?_⟩,?_,h⟩
 .cases j with
  |zero=>cases hj
  |succ j=>simp
 .cases j with
  |zero=>
   simp only [hget,Nat.beq_refl,cond_true,Option.some.injEq]at hj;subst hj;exact ⟨u,⟨sz,rows0⟩,rfl,hu,rfl,hin.symm⟩
  |succ j=>cases hj
 .have hx:=cZ hj;have hj0:j=0:=by
   cases j with
   |zero=>rfl
   |succ j=>simp at hx
  subst hj0;simp at hx;subst hx;simp only [hget,Nat.beq_refl,cond_true,hR.2,Option.map_some,hout]
 .have hne:Nat.beq x u=false:=by
   cases hb:Nat.beq x u
   .rfl
   .simp [dn,hb]at hj
  simp only [hget,hne,cond_false]
 .rw [hR.1,hy];cases s;exact hp
section
variable {P:Program} {ops:List Oper} {s s1:St} {ty:Nat} {pos:String} {af:Array Edge} {gu:Option (Nat×Bool)} {r:List Oper} {N:St->Prop} {pd:List Pend} {st:List Nat}
end
end Go.Abs

namespace Go.Abs
def OneC (s:St)(x:V):Prop:=(∀ C w a,StRep C w a s->∀ v,Rep C w v x->v.cells=#[v]/\v.oneCell'=true)/\dpc x=false
def OneCs (s:St):List V->Prop
 | []=>True
 |x::xs=>OneC s x/\OneCs s xs
section
variable {P:Program} {T:List TI} {s s1 s':St} {ops:Array Oper} {d:Option Nat} {ty:Nat} {pos:String} {af:Array Edge} {gu:Option (Nat×Bool)} {r:List Oper} {K:St->Prop}
theorem dpc_one {x:V}(h:oneV s x=true):dpc x=false:=by
 cases x<;>try rfl
 show(!Nat.ble _ 1)=false;simp only [oneV]at h;rw [h];rfl
theorem D6 {x:V}(h:oneV s x=true):OneC s x:=⟨fun C w a hs v hv=>ah9 hs hv h,dpc_one h⟩
theorem P8 {u i n sz:Nat}{rows:List (List V)}(hu:hget s.heap u=some ⟨sz,rows⟩)(hn:i+n=rows.length):OneC s (.hsl u i n):=⟨cV hu hn,rfl⟩
theorem Q4:OneCs s []:=trivial
theorem m0 {x:V}{xs:List V}(h:OneC s x)(t:OneCs s xs):OneCs s (x::xs):=⟨h,t⟩
theorem au9 {C:Ctx}{w:World}{a:Act}(hs:StRep C w a s):∀{vs:List Value} {xs:List V},RepL C w vs xs->OneCs s xs->∀ v∈vs,v.oneCell'=true
 |_,_,.nil,_,v,hv=>by cases hv
 |_,_,.cons h t,ho,v,hv=>by
  rcases List.mem_cons.1 hv with rfl|hv
  .exact (ho.1.1 C w a hs _ h).2
  .exact au9 hs t ho.2 v hv
theorem ai0:∀{xs:List V},OneCs s xs->xs.all (fun x=>!dpc x)=true
 | [],_=>rfl
 |x::xs,h=>by rw [List.all_cons,h.1.2,ai0 h.2];rfl
theorem tI {t:Nat}{y z:Operand}{ti:TI}{u n i off:Nat}{hb:HB}{row cs:List V}(hT:TabOK P T)
 (hg:gd ops.toList s gu=some true) (ht:T[t]? =some ti) (hy:ev s y=.ptr u n i off) (hu:hget s.heap u=some hb) (hn:n=hb.rows.length) (hrow:hb.rows[i]? =some row)
 (hc:ev s z=.agg cs) (hone:OneCs s cs) (hsz:ti.size=cs.length) (hoff:off+cs.length<=row.length)
 (h:AOps P ops r (s.wr u ⟨hb.sz,hb.rows.set i (row.take off++cs++row.drop (off+cs.length))⟩) K):
 AOps P ops (⟨none,.store t y z,ty,pos,af,gu⟩::r) s K:=
 rT hg fun C w a hs=>by
  have hv:=hs.ev y;rw [hy]at hv;obtain ⟨L,b,hL,hLsz,hLn,hblk,hbb,hnz,he⟩:=kD hs.heap hv hu hn;obtain ⟨cells,el,fz,hheap,hcs,hle,hfz,hrep⟩:=fQ hbb hnz hblk;have hz:RepL C w (a.eval z).cells.toList cs:=by
   have:=hs.ev z;rw [hc]at this;generalize a.eval z=vz at this;cases this with |agg hl=>exact hl
  have hzl:=hz.length;have hin:=dD hheap hrep;obtain ⟨hin2,hbd⟩:=qK hcs hle hin hrow hz hoff;have hrun:=X4 (P:=P) b (i * hb.sz+off) el fz (a.eval z).cells.toList 0 cells w hheap hfz (by rw [hLsz]at hbd;simpa using hbd) (au9 hs hz hone);obtain ⟨S',hS',hdp⟩:=av2 hs.heap hu hL hbb hnz hheap hrow hzl hoff (ai0 hone);have hw:=HSt.write hs.heap hnz (w':=w.setRow b _) (rows:=hb.rows.set i (row.take off++cs++row.drop (off+cs.length))) hL hbb rfl rfl (oQ w b (cells.toList.take (i * L.sz+off)++(a.eval z).cells.toList++cells.toList.drop (i * L.sz+off+(a.eval z).cells.toList.length)).toArray) (fun c hc=>kQ w b c _ hc) (setRow_heap w b cells _ el fz hheap)
   (by simp at hbd |-;omega) (by
    have:((cells.toList.take (i * L.sz+off)++(a.eval z).cells.toList++cells.toList.drop (i * L.sz+off+(a.eval z).cells.toList.length)).toArray).size=cells.size:=by
     simp at hbd |-;omega
    rw [this];exact hfz) (by simpa using hle) (.inl (by simp [hLn])) (fun C' w' E=>hin2.mono E) S' hS' (hdp _)
  rw [hLsz]at hw;obtain ⟨C1,hn1,hl1,_,w1,w2,w3⟩:=hw;refine ⟨_,C1,s.wr u ⟨hb.sz,hb.rows.set i (row.take off++cs++row.drop (off+cs.length))⟩,?_,wr_rep ⟨hs.defers,hs.size,by rw [hn1];exact hs.nx,fun i=>(hs.env i).mono w2,w1,by rw [hl1];exact hs.lv⟩,w3,h⟩;have e:(a.eval z).cells.size=ti.size:=by rw [hsz,<- hzl];simp
  simp only [Nat.add_zero]at hrun;simp [execOp,he,Instr.storeAt,Instr.sureAddr,storeVar,hT.size ht,e,hrun]
theorem S7 {t:Nat}{y z:Operand}{ti:TI}{u off sz:Nat}{row row' cs:List V}(hT:TabOK P T)(hg:gd ops.toList s gu=some true)(ht:T[t]? =some ti)(hy:ev s y=.ptr u 1 0 off)(hu:hget s.heap u=some ⟨sz,[row]⟩)
 (hc:ev s z=.agg cs) (hone:OneCs s cs) (hsz:Nat.beq ti.size cs.length=true) (hput:putRow row off cs=some row') (hs':(s.wr u ⟨sz,[row']⟩).norm=some s1) (h:AOps P ops r s1 K):
 AOps P ops (⟨none,.store t y z,ty,pos,af,gu⟩::r) s K:=by
 rw [ah5]at hs';simp only [Option.some.injEq]at hs';subst hs';obtain ⟨p1,p2⟩:=uC hput;refine tI (hb:=⟨sz,[row]⟩) hT hg ht hy hu rfl rfl hc hone (Nat.eq_of_beq_eq_true hsz) p2 ?_;have:([row].set 0 (row.take off++cs++row.drop (off+cs.length)))=[row']:=by rw [p1];rfl
 rw [this];exact h
theorem sc_storeXP {α:Type}(c:Cd α){t u sz l off:Nat}{y z:Operand}{ti:TI}{cs row':List V}{xs:List α}{v:α}{n:Int}(hn:nth xs n=some v)(hT:TabOK P T)(hg:gd ops.toList s gu=some true)(ht:T[t]? =some ti)(hy:ev s y=.ptr u xs.length n.toNat off)(hu:hget s.heap u=some ⟨sz,xs.map (c.enc l)⟩)
 (hc:ev s z=.agg cs) (hone:OneCs s cs) (hsz:Nat.beq ti.size cs.length=true) (hput:putRow (c.row l v) off cs=some row') (hs':(s.wr u ⟨sz,(xs.map (c.enc l)).set n.toNat row'⟩).norm=some s1) (h:AOps P ops r s1 K):
 AOps P ops (⟨none,.store t y z,ty,pos,af,gu⟩::r) s K:=by
 rw [ah5]at hs';simp only [Option.some.injEq]at hs';subst hs';obtain ⟨h1,h2,h3⟩:=cN hn;obtain ⟨p1,p2⟩:=uC hput;refine tI (hb:=⟨sz,xs.map (c.enc l)⟩) (row:=c.row l v) hT hg ht hy hu (by simp) (by rw [List.getElem?_map,h3,<- c.eq];rfl) hc hone (Nat.eq_of_beq_eq_true hsz) p2 ?_;have:((xs.map (c.enc l)).set n.toNat ((c.row l v).take off++cs++(c.row l v).drop (off+cs.length)))=(xs.map (c.enc l)).set n.toNat row':=by rw [p1]
 rw [this];exact h
theorem aq2 {α:Type}(c:Cd α){t u sz l:Nat}{y z:Operand}{ti:TI}{cs:List V}{xs:List α}{v:α}{n:Int}(hn:nth xs n=some v)(hT:TabOK P T)(hg:gd ops.toList s gu=some true)(ht:T[t]? =some ti)(hy:ev s y=.ptr u xs.length n.toNat 0)(hu:hget s.heap u=some ⟨sz,xs.map (c.enc l)⟩)
 (hc:ev s z=.agg cs) (hone:OneCs s cs) (hsz:Nat.beq ti.size cs.length=true) (hsz2:Nat.beq cs.length c.sz=true) (hs':(s.wr u ⟨sz,(xs.map (c.enc l)).set n.toNat cs⟩).norm=some s1) (h:AOps P ops r s1 K):
 AOps P ops (⟨none,.store t y z,ty,pos,af,gu⟩::r) s K:=by
 rw [ah5]at hs';simp only [Option.some.injEq]at hs';subst hs';obtain ⟨h1,h2,h3⟩:=cN hn;have e:=Nat.eq_of_beq_eq_true hsz2;have hrl:(c.row l v).length=cs.length:=by rw [c.len,e]
 refine tI (hb:=⟨sz,xs.map (c.enc l)⟩) (row:=c.row l v) hT hg ht hy hu (by simp) (by rw [List.getElem?_map,h3,<- c.eq];rfl) hc hone (Nat.eq_of_beq_eq_true hsz) (by omega) ?_;have:(c.row l v).take 0++cs++(c.row l v).drop (0+cs.length)=cs:=by rw [Nat.zero_add,<- hrl,List.drop_length];simp
 rw [this];exact h
theorem nth_in {α β:Type}(f:α->β){xs:List α}{v:α}{n:Int}(hn:nth xs n=some v):n.toNat<(xs.map f).length:=by
 have h1:=(cN hn).1;have h2:=(cN hn).2.1;rw [List.length_map];omega
theorem ov_loadrow {t:Nat}{y:Operand}{ti:TI}{u m i off sz:Nat}{rows:List (List V)}{row:List V}{x:V}(hT:TabOK P T)(ht:T[t]? =some ti)(hy:ev s y=.ptr u m i off)(hu:hget s.heap u=some ⟨sz,rows⟩)(hm:m=rows.length)(hrow:rows[i]? =some row)(hl:loadRow ti row off=some x):
 OpVal P s (.load t y) x:=fun C w a hs d ty pos af gu=>by
 have hv:=hs.ev y;rw [hy]at hv;obtain ⟨L,b,hL,hsz,hLn,hblk,hbb,hnz,he⟩:=kD hs.heap hv hu hm;obtain ⟨cs,el,fz,_,_,_,_,vals,hvals⟩:=fQ hbb hnz hblk;obtain ⟨h1,h2,h3⟩:=hvals i row hrow;obtain ⟨v,h4,h5⟩:=uF (P:=P) hT ht h2 h3 hl;refine ⟨v,fun w' hw=>?_,h5⟩;have:=h4 w' hw;rw [Nat.zero_add,hsz]at this;simp [execOp,he,this]
theorem sG {α:Type}(c:Cd α){t u sz l off:Nat}{y:Operand}{ti:TI}{x:V}{xs:List α}{v:α}{n:Int}{cs:List V}(hn:nth xs n=some v)(hT:TabOK P T)(ht:T[t]? =some ti)(hy:ev s y=.ptr u xs.length n.toNat off)(hu:hget s.heap u=some ⟨sz,(xs.map (c.enc l)).set n.toNat cs⟩)(hl:loadRow ti cs off=some x):OpVal P s (.load t y) x:=
 ov_loadrow hT ht hy hu (by simp) (List.getElem?_set_self (nth_in _ hn)) hl
section
variable {α:Type} (c:Cd α)
theorem Cd.at2 {l:Nat}{xs:List α}{v:α}{n:Int}(hn:nth xs n=some v):(xs.map (c.enc l))[n.toNat]? =some (c.row l v):=by rw [List.getElem?_map,(cN hn).2.2,<- c.eq];rfl
theorem Cd.atx {l:Nat}{xs:List α}{v:α}{n:Int}(cs:List V)(hn:nth xs n=some v):((xs.map (c.enc l)).set n.toNat cs)[n.toNat]? =some cs:=List.getElem?_set_self (nth_in _ hn)
theorem Cd.dps0 (l:Nat)(h:∀ x,(c.row l x).all dpV=true)(xs:List α):∀ row∈xs.map (c.enc l),row.all dpV=true:=fun row hr=>by
 obtain⟨x,_,rfl⟩:=List.mem_map.1 hr;rw [c.eq];exact h x
theorem Cd.setx {l:Nat}(xs:List α)(i:Nat)(x:α):(xs.map (c.enc l)).set i (c.row l x)=(xs.set i x).map (c.enc l):=by rw [<- c.eq,<- List.map_set]
end
theorem eD {β:Type}(l:List β)(i:Nat)(a b:β):(l.set i a).set i b=l.set i b:=List.set_set ..
theorem E9 {α β:Type}(f:α->β)(l:List α):(l.map f).length=l.length:=List.length_map ..
theorem sE (u i n:Nat){usz sz nx:Nat}{rows rows' rs:List (List V)}(pre suf:List V)(hnx:s.nx=nx)(hu:hget s.heap u=some ⟨usz,rows⟩)(hz:Nat.beq usz 0=false)(hrow:rows[i]? =some (pre++ .psl 2 sz rs::suf))(hn:rs.length=n)(hr:rows.set i (pre++ .hsl nx 0 n::suf)=rows')(hs':s.opened u usz rows' sz rs=s'):Le s s':=by
 subst hn;exact le_open u i pre suf hnx hu hz hrow hr hs'
theorem aC (u v i n:Nat){usz sz:Nat}{rows rows' rs:List (List V)}(pre suf:List V)(hu:hget s.heap u=some ⟨usz,rows⟩)(hz:Nat.beq usz 0=false)(hv:hget s.heap v=some ⟨sz,rs⟩)(hsz:Nat.beq sz 0=false)(huv:Nat.beq u v=false)(hn:rs.length=n)(hrow:rows[i]? =some (pre++ .hsl v 0 n::suf))(hdp:∀ row∈rs,row.all dpV=true)(hr:rows.set i (pre++ .psl 2 sz rs::suf)=rows')(hs':s.closed u v usz rows'=s'):Le s s':=by
 subst hn;exact le_close u v i pre suf hu hz hv hsz huv hrow hdp hr hs'
end
end Go.Abs

namespace Go.Abs
section
variable {P:Program} {T:List TI} {s:St}
theorem ov_toByte {t t':Nat}{x:Operand}{k k0:IntKind}{n:Int}(h:0<=n/\n<=255)(hT:TabOK P T)(h0:convK T t=some k0)(h1:convK T t'=some .u8)(hx:ev s x=.int k n):OpVal P s (.convert t t' x) (.int .u8 ((UInt8.ofNat n.toNat).toNat:Int)):=by
 have e:IntKind.u8.wrap n=((UInt8.ofNat n.toNat).toNat:Int):=by
  have h2:(UInt8.ofNat n.toNat).toNat=n.toNat:=by rw [UInt8.toNat_ofNat'];exact Nat.mod_eq_of_lt (by omega)
  rw [h2];have:n % (2 ^ IntKind.u8.bits:Int)=n:=Int.emod_eq_of_lt h.1 (by show n<256;omega);unfold IntKind.wrap;simp only [this];have hs:IntKind.u8.signed=false:=rfl;rw [hs];simp;omega
 exact uA (T:=T) hT (by simp only [pstep,h0,h1,hx,e])
theorem conv_bytes {w:World}{src dst e b off len cap:Nat}{xs:List UInt8}(hs:P.underlying src=some (.slice e))(he:P.underlying e=some (.int .u8))(hd:P.underlying dst=some .string)(hlen:xs.length=len)
 (hcell:∀ i,i<len->w.cell? ⟨b,off+i,none⟩=some (.int .u8 ((xs.getD i 0).toNat:Int))):(convert src dst (.slice (some ⟨b,off,none⟩) len cap)).run P w=.ok (.string ⟨xs.toArray⟩) w:=by
 have hl:(loadCells ⟨b,off,none⟩ len).run P w=.ok ((xs.map fun b=>(b.toNat:Int)).map (Value.int .u8)).toArray w:=by
  have:=run_loadCells_list (P:=P) w ⟨b,off,none⟩ ((xs.map fun b=>(b.toNat:Int)).map (Value.int .u8)) (fun j v hj=>by
   have hjl:j<xs.length:=by
    rcases Nat.lt_or_ge j xs.length with h|h
    .exact h
    .rw [List.getElem?_eq_none (show ((xs.map fun b=>(b.toNat:Int)).map (Value.int .u8)).length<=j by simpa using h)]at hj;cases hj
   rw [cG,hcell j (by omega)];simp [List.getElem?_eq_getElem hjl]at hj;subst hj;simp [List.getD,List.getElem?_eq_getElem hjl])
  simpa [hlen]using this
 rw [run_convert_bytes_string w src dst e _ len cap hs he hd,run_bytesToString w _ len cap _ hl,foldl_push_byteCells];simp [ByteArray.empty,ByteArray.emptyWithCapacity];rfl
theorem conv_nil {w:World}{src dst e l c:Nat}(hs:P.underlying src=some (.slice e))(he:P.underlying e=some (.int .u8))(hd:P.underlying dst=some .string):(convert src dst (.slice none l c)).run P w=.ok (.string ⟨([]:List UInt8).toArray⟩) w:=
 run_convert_bytes_nil w src e hs he l c dst hd
def byteT (T:List TI)(t:Nat):Bool:=match elemI T t with |some (_,⟨.int .u8,_,_,_,_⟩)=>true|_=>false
theorem byteT_spec {t:Nat}(hT:TabOK P T)(h:byteT T t=true):∃ e,P.underlying t=some (.slice e)/\P.underlying e=some (.int .u8):=by
 unfold byteT at h;split at h
 .rename_i e _ _ _ _ he;obtain ⟨h1,h2⟩:=gR hT he;exact ⟨e,h1,hT.int h2 rfl⟩
 .cases h
theorem strT_und {t:Nat}(hT:TabOK P T)(h:strT T t=true):P.underlying t=some .string:=by
 unfold strT at h;split at h
 .rename_i ti ht;split at h
  .rename_i hk;exact hT.string ht hk
  .cases h
 .cases h
theorem ov_bytesH {t t' u l:Nat}{x:Operand}{xs:List UInt8}(hT:TabOK P T)(h0:byteT T t=true)(h1:strT T t'=true)(hx:ev s x=.hsl u 0 xs.length)(hu:hget s.heap u=some ⟨1,xs.map (cByte.enc l)⟩):OpVal P s (.convert t t' x) (.str xs):=fun C w a hs d ty pos af gu=>by
 obtain⟨e,q1,q2⟩:=byteT_spec hT h0;have q3:=strT_und hT h1;have hv:=hs.ev x;rw [hx]at hv;obtain ⟨L,g1,g2,g3,g4,g5⟩:=aO hs.heap hv hu (by show 0+xs.length=(xs.map (cByte.enc l)).length;simp);refine ⟨.string ⟨xs.toArray⟩,fun w' hw=>?_,.str _⟩;unfold HSL at g5;cases hbk:L.blk with
 |none=>
  rw [hbk]at g5;simp only at g5;unfold Blk at g4;rw [hbk]at g4;have:xs=[]:=by simpa using g4.1
  subst this;simp [execOp,g5,conv_nil q1 q2 q3]
 |some b=>
  rw [hbk]at g5;simp only [Nat.zero_mul,Nat.sub_zero]at g5;obtain ⟨cs,el,fz,k1,k2,k3,k4,vals,k5⟩:=fQ hbk g5.1 g4;have hsz:L.sz=1:=g2;have hcell:∀ i,i<xs.length->w'.cell? ⟨b,0+i,none⟩=some (.int .u8 ((xs.getD i 0).toNat:Int)):=fun i hi=>by
   obtain⟨r1,r2,r3⟩:=k5 i [.int .u8 xs[i].toNat] (by rw [List.getElem?_map,List.getElem?_eq_getElem hi];rfl);obtain ⟨v,s1,s2⟩:=r3.get 0 _ rfl;cases s2;have:=hw.cell (r2 0 _ s1);rw [hsz]at this;simpa [List.getD,List.getElem?_eq_getElem hi]using this
  simp [execOp,g5.2,conv_bytes (P:=P) (off:=0) q1 q2 q3 rfl hcell]
end
end Go.Abs
