
import Derived.Test.YtllbdfllngpkaaaGreatLibB
import Derived.Laws.StructEq
import Derived.Laws.Concat
import Derived.ArgAppend
set_option linter.all false
namespace Go.Abs
theorem map_get {α β:Type}{f:α->β}{d:α}{l:List α}{i:Nat}(h:i<l.length):(l.map f)[i]? =some (f (l.getD i d)):=by
 rw [List.getElem?_map,List.getElem?_eq_getElem h];simp [List.getD,List.getElem?_eq_getElem h]
theorem as3 {α:Type}{d:α}{l:List α}{i:Nat}(h:i<l.length):l.getD i d∈l:=by
 simp only [List.getD,List.getElem?_eq_getElem h,Option.getD_some];exact List.getElem_mem h
section
variable {α:Type} {e:α->List V} {z:List V} {l:List α} {d:α} {i:Nat}
end
section
variable {P:Program} {T:List TI} {s:St} {ops:Array Oper} {d:Option Nat} {ty:Nat} {pos:String} {af:Array Edge} {gu:Option (Nat×Bool)} {r:List Oper} {K:St->Prop} {s1:St}
theorem j7 {n:Nat}:HeapLe s n []:=trivial
theorem l8 {n u sz:Nat}{rows rows':List (List V)}{l:List (Nat×HB)}(h:hget s.heap u=some ⟨sz,rows'⟩)(hr:rows'=rows)(hu:Nat.blt u n=true)(ho:∀ row∈rows,RowOk n row)(t:HeapLe s n l):HeapLe s n ((u,⟨sz,rows⟩)::l):=by
 subst hr;exact ⟨⟨h,by simpa using hu,ho⟩,t⟩
theorem d7 {s2:St}(he:EnvLe s s2.nx s2.env)(hh:HeapLe s s2.nx s2.heap)(hx:Nat.ble s2.nx s.nx=true)(h2:Nat.blt 11 s2.nx=true)(hn:s2.n=s.n)(hl:s2.lv=[]):Down s s2:=
 ⟨he,hh,by simpa using hx,by simpa using h2,hn,fun l h=>by rw [hl]at h;simp at h⟩
def boolT (T:List TI)(t:Nat):Bool:=match T[t]? with |some ti=>(match ti.kind with |.bool=>true|_=>false)|none=>false
theorem boolT_spec {t:Nat}(hT:TabOK P T)(h:boolT T t=true):P.underlying t=some .bool:=by
 unfold boolT at h;split at h
 .rename_i ti ht;split at h
  .rename_i hk;obtain ⟨rfl,_,h1⟩:=hT t ti ht;simp only [tiOf,tkOf]at hk;split at hk<;>simp_all
  .simp at h
 .simp at h
theorem aa8 {t:Nat}(hu:P.underlying t=some .bool)(a b:Bool)(w:World)(n:Nat):(Op.equalIn (n+1) t (.bool a) (.bool b)).run P w=.ok (decide (a=b)) w:=by
 simp only [Op.equalIn,Sem.run_bind,run_underlying hu,Result.andThen_ok,Sem.run_pure];cases a<;>cases b<;>rfl
theorem am5 {t:Nat}(hu:P.underlying t=some .bool)(a b:Bool)(w:World):(Op.equal t (.bool a) (.bool b)).run P w=.ok (decide (a=b)) w:=
 aa8 hu a b w 9999
theorem ov_bne {t t':Nat}{x y:Operand}{a b:Bool}(hT:TabOK P T)(ht:boolT T t=true)(hx:ev s x=.bool a)(hy:ev s y=.bool b):OpVal P s (.binOp .neq t x y t') (.bool (!decide (a=b))):=fun C w ac hs d ty pos af gu=>by
 have hv:=hs.ev x;rw [hx]at hv;have hv2:=hs.ev y;rw [hy]at hv2;generalize e1:ac.eval x=v at hv;generalize e2:ac.eval y=v2 at hv2;cases hv;cases hv2;refine ⟨_,fun w' _=>?_,.bool _⟩;simp [execOp,e1,e2,eqGuard,binOp,am5 (boolT_spec hT ht)]
theorem ov_mlen {α:Type}{en:α->List V}{l:List α}{lb sz t e sz':Nat}{x:Operand}(hT:TabOK P T)(ht:elemT T t=some (e,sz'))(hx:ev s x=.psl lb sz (l.map en))(hl:s.live lb=true):
 OpVal P s (.call ⟨.builtin .len,⟨[x]⟩,⟨[t]⟩⟩) (.int .i64 l.length):=by
 refine uA (T:=T) hT ?_;unfold elemT at ht;unfold pstep;simp only;split at ht
 .rename_i ti hti;rw [hti];simp only;split at ht
  .rename_i e' hk;rw [hx];simp only [hk,lenV,hl,cond_true,List.length_map]
  .simp at ht
 .simp at ht
end
theorem o0 {f:Nat->Nat}:V.rlL f []=[]:=rfl
theorem i7 {f:Nat->Nat}{x y:V}{xs ys:List V}(h:V.rl f x=y)(t:V.rlL f xs=ys):V.rlL f (x::xs)=y::ys:=by simp only [V.rlL,h,t]
end Go.Abs

namespace Go.Abs
section
variable {P:Program} {T:List TI} {s:St}
theorem ov_cat {t t':Nat}{x y:Operand}{a b:List UInt8}(hx:ev s x=.str a)(hy:ev s y=.str b)(h:a.length+b.length<=9223372036854775807):OpVal P s (.binOp .add t x y t') (.str (a++b)):=fun C w ac hs d ty pos af gu=>by
 have hv:=hs.ev x;rw [hx]at hv;have hv2:=hs.ev y;rw [hy]at hv2;generalize e1:ac.eval x=v at hv;generalize e2:ac.eval y=v2 at hv2;cases hv;cases hv2;refine ⟨_,fun w' _=>?_,.str _⟩;have h1:¬ ((((⟨a.toArray⟩:ByteArray).size+(⟨b.toArray⟩:ByteArray).size:Nat):Int)>IntKind.i64.max):=by
  rw [lR,lR];have:IntKind.i64.max=9223372036854775807:=rfl;omega
 simp only [execOp,e1,e2,eqGuard,binOp,Op.stringOp,if_neg h1,ByteArray.mk_append_mk];simp
end
end Go.Abs

namespace Go.Abs
def isArith:Op->Bool
 |.binOp .add _ _ _ _=>true
 |.binOp .sub _ _ _ _=>true
 |.binOp .mul _ _ _ _=>true
 |.call ⟨.builtin .len,_,_⟩=>true
 |.convert _ _ _=>true
 |_=>false
inductive XR where
 |at (s:St) (r:List Oper)
 |no
def stops (o:Oper):Bool:=match o.guard with
 |some _=>true
 |none=>isArith o.op
def xsteps (T:List TI)(l:List Oper):List Oper->St->XR
 | [],s=>.at s []
 |o::r,s=>match stops o with
  |true=>.at s (o::r)
  |false=>match xstep T l s o with
   |some s'=>xsteps T l r s'
   |none=>.at s (o::r)
section
variable {P:Program} {T:List TI} {s:St} {ops:Array Oper}
theorem m7 {n:Nat}{r:List V}(h:RowOk n r):∀ row∈ [r],RowOk n row:=fun row hr=>by
 rw [List.mem_singleton]at hr;subst hr;exact h
def memb (i:Nat):List Nat->Bool
 | []=>false
 |k::r=>bif Nat.beq i k then true else memb i r
def keepF (ks:List Nat):List (Nat×V)->Option (List (Nat×V))
 | []=>some []
 |(i,v)::r=>match keepF ks r with
  |some t=>(match memb i ks with |true=>some ((i,v)::t)|false=>some t)
  |none=>none
def St.keep:St->List Nat->Option St
 |⟨env,heap,nx,n,lv⟩,ks=>match keepF ks env with |some t=>some ⟨t,heap,nx,n,lv⟩|none=>none
theorem keepF_get (ks:List Nat):∀{env t:List (Nat×V)},keepF ks env=some t->∀ i,eget t i=.junk\/eget t i=eget env i
 | [],t,h,i=>by simp [keepF]at h;subst h;exact .inl rfl
 |(j,v)::r,t,h,i=>by
  simp only [keepF]at h;split at h
  .rename_i t' ht;have ih:=keepF_get ks ht i;split at h
   .simp only [Option.some.injEq]at h;subst h;simp only [eget,Bool.cond_eq_ite];split
    .exact .inr rfl
    .exact ih
   .rename_i hm;simp only [Option.some.injEq]at h;subst h;simp only [eget,Bool.cond_eq_ite];by_cases hij:(i.beq j)=true
    .rw [if_pos hij];have hij':i=j:=by rwa [Nat.beq_eq]at hij
     subst hij';left;have none_of:∀{env t:List (Nat×V)},keepF ks env=some t->eget t i=.junk:=by
      intro env;induction env with
      |nil=>intro t h;simp [keepF]at h;subst h;rfl
      |cons p r ih=>
       intro t h;obtain ⟨j,v⟩:=p;simp only [keepF]at h;split at h
       .rename_i t' ht;split at h
        .rename_i hm';simp only [Option.some.injEq]at h;subst h;simp only [eget,Bool.cond_eq_ite];rw [if_neg]
         .exact ih ht
         .intro e;rw [Nat.beq_eq]at e;subst e;rw [hm]at hm';cases hm'
        .simp only [Option.some.injEq]at h;subst h;exact ih ht
       .simp at h
     exact none_of ht
    .rw [if_neg hij];exact ih
  .simp at h
theorem keep_rep {C:Ctx}{w:World}{a:Act}{s':St}{ks:List Nat}(hs:StRep C w a s)(h:s.keep ks=some s'):StRep C w a s':=by
 obtain⟨env,heap,nx,n,lv⟩:=s;simp only [St.keep]at h;split at h
 .rename_i t ht;simp only [Option.some.injEq]at h;subst h;refine ⟨hs.defers,hs.size,hs.nx,fun i=>?_,hs.heap,hs.lv⟩;rcases keepF_get ks ht i with h|h
  .show Rep C w _ (eget t i);rw [h];exact .junk _
  .show Rep C w _ (eget t i);rw [h];exact hs.env i
 .simp at h
theorem d6 {c:Code}{K:Exit->St->Prop}{s':St}(ks:List Nat)(hk:s.keep ks=some s')(h:AT P c s' K):AT P c s K:=
 fun C w a hs=>h C w a (keep_rep hs hk)
end
end Go.Abs

namespace Go.Abs
def VLe (x y:V):Prop:=∀(C:Ctx) (w:World) (v:Value),Rep C w v x->Rep C w v y
theorem l5 (x:V):VLe x x:=fun _ _ _ h=>h
theorem bN (l sz:Nat):VLe .nilsl (.psl l sz []):=fun C w v h=>by cases h;exact .psl0 _ _ _ _
inductive VLeL:List V->List V->Prop
 |nil:VLeL [] []
 |cons {x y:V} {xs ys:List V} (h:VLe x y) (t:VLeL xs ys):VLeL (x::xs) (y::ys)
theorem nA:∀ l:List V,VLeL l l
 | []=>.nil
 |x::l=>.cons (l5 x) (nA l)
theorem VLeL.rep {C:Ctx}{w:World}:∀{xs ys:List V},VLeL xs ys->∀{vs:List Value},RepL C w vs xs->RepL C w vs ys
 |_,_,.nil,_,.nil=>.nil
 |_,_,.cons h t,_,.cons hv ht=>.cons (h _ _ _ hv) (t.rep ht)
theorem ay2 {xs ys:List V}(h:VLeL xs ys):VLe (.agg xs) (.agg ys):=fun C w v hv=>by
 cases hv with |agg hl=>exact .agg (h.rep hl)
theorem uY {xs ys:List V}(h:VLeL xs ys):VLe (.tup xs) (.tup ys):=fun C w v hv=>by
 cases hv with |tup hl=>exact .tup (h.rep hl)
theorem FC.weaken {P:Program}{f:FuncId}{args args':List V}{h:List (Nat×HB)}{nx:Nat}{R:V->List (Nat×HB)->Prop}(hc:FC P f args h nx R)(hl:VLeL args' args):FC P f args' h nx R:=
 ⟨hc.1,fun C w cargs h1 h2 h3=>hc.2 C w cargs h1 h2 (hl.rep h3)⟩
theorem FC.of_le {P:Program}{f:FuncId}{args:List V}{h:List (Nat×HB)}{nx:Nat}{x:V}(hc:FC P f args h nx (fun y _=>VLe y x)):FC P f args h nx (fun y _=>y=x):=
 ⟨hc.1,fun C w cargs h1 h2 h3=>(hc.2 C w cargs h1 h2 h3).mono fun _ _ ⟨v,C',_,h',e1,e2,e3,e4,e5⟩=>⟨v,C',x,h',e1,e2,e5 _ _ _ e3,e4,rfl⟩⟩
section
variable {P:Program} {T:List TI} {s:St}
theorem A6 {rs:List ResultVar}{r x:V}(h:resV T s rs=some r)(hR:VLe r x):retK T rs (fun y _=>VLe y x) .ret s:=⟨r,h,hR⟩
theorem ov_rem {t t':Nat}{x y:Operand}{k:IntKind}{a b:Int}(hx:ev s x=.int k a)(hy:ev s y=.int k b)(h:0<=a/\0<b):OpVal P s (.binOp .rem t x y t') (.int k (a % b)):=fun C w ac hs d ty pos af gu=>by
 have hv:=hs.ev x;rw [hx]at hv;have hv2:=hs.ev y;rw [hy]at hv2;generalize e1:ac.eval x=v at hv;generalize e2:ac.eval y=v2 at hv2;cases hv;cases hv2;refine ⟨_,fun w' _=>?_,.int _ _⟩;have hb:¬ b=0:=by omega
 simp [execOp,e1,e2,eqGuard,binOp,Op.intDiv,hb,Int.tmod_eq_emod_of_nonneg h.1]
theorem ov_quo {t t':Nat}{x y:Operand}{a b:Int}(hx:ev s x=.int .i64 a)(hy:ev s y=.int .i64 b)(h:0<=a/\a<=9223372036854775807/\0<b):OpVal P s (.binOp .quo t x y t') (.int .i64 (a / b)):=fun C w ac hs d ty pos af gu=>by
 have hv:=hs.ev x;rw [hx]at hv;have hv2:=hs.ev y;rw [hy]at hv2;generalize e1:ac.eval x=v at hv;generalize e2:ac.eval y=v2 at hv2;cases hv;cases hv2;refine ⟨_,fun w' _=>?_,.int _ _⟩;have hb:¬ b=0:=by omega
 have hq:IntKind.i64.wrap (a / b)=a / b:=rQ ⟨by have:=Int.ediv_nonneg h.1 (Int.le_of_lt h.2.2);omega,by have:=Int.ediv_le_self b h.1;omega⟩;simp [execOp,e1,e2,eqGuard,binOp,Op.intDiv,hb,Int.tdiv_eq_ediv_of_nonneg h.1,hq]
theorem ov_max {x y:Operand}{tys:Array TypeId}{k k':IntKind}{a b:Int}(hx:ev s x=.int k a)(hy:ev s y=.int k' b):OpVal P s (.call ⟨.builtin .max,⟨[x,y]⟩,tys⟩) (.int k (max a b)):=fun C w ac hs d ty pos af gu=>by
 have hv:=hs.ev x;rw [hx]at hv;have hv2:=hs.ev y;rw [hy]at hv2;generalize e1:ac.eval x=v at hv;generalize e2:ac.eval y=v2 at hv2;cases hv;cases hv2;refine ⟨_,fun w' _=>?_,.int _ _⟩;have e:(if b>a then b else a)=max a b:=by split<;>omega
 simp [execOp,resolve,invoke,builtin,e1,e2,Builtin.max_,Builtin.max2,e]
end
end Go.Abs

namespace Go.Abs
def dn:List Nat->Nat->Option Nat
 | [],_=>none
 |a::r,u=>match Nat.beq u a with |true=>some 0|false=>match dn r u with |some j=>some (j+1)|none=>none
theorem cZ:∀{us:List Nat} {u j:Nat},dn us u=some j->us[j]? =some u
 | [],u,j,h=>by simp [dn]at h
 |a::r,u,j,h=>by
  simp only [dn]at h;split at h
  .rename_i hb;rw [Nat.beq_eq]at hb;simp only [Option.some.injEq]at h;subst h;subst hb;rfl
  .split at h
   .rename_i j' hj;simp only [Option.some.injEq]at h;subst h;simpa using cZ hj
   .simp at h
def distinct:List Nat->Bool
 | []=>true
 |a::r=>!memb a r&&distinct r
theorem gT:∀{l:List Nat} {a:Nat},memb a l=false->∀ j:Nat,l[j]? ≠some a
 | [],a,_,j=>by simp
 |b::r,a,h,j=>by
  simp only [memb,Bool.cond_eq_ite]at h;split at h
  .simp at h
  .rename_i hb;cases j with
   |zero=>intro e;simp at e;exact hb (by simp [e])
   |succ j=>simpa using gT h j
theorem zG:∀{us:List Nat} {u j:Nat},distinct us=true->us[j]? =some u->dn us u=some j
 | [],u,j,_,h=>by simp at h
 |a::r,u,j,hd,h=>by
  simp only [distinct,Bool.and_eq_true,Bool.not_eq_true']at hd;cases j with
  |zero=>simp at h;subst h;simp [dn]
  |succ j=>
   have h':r[j]? =some u:=by simpa using h
   have hne:u≠a:=fun e=>gT hd.1 j (by rw [<- e];exact h');simp only [dn];have hb:Nat.beq u a=false:=by
    cases hb:Nat.beq u a
    .rfl
    .rw [Nat.beq_eq]at hb;exact absurd hb hne
   rw [hb];simp only [zG hd.2 h']
mutual
def V.rn (g:Nat->Option Nat):V->V
 |.agg cs=>.agg (V.rnL g cs)
 |.tup cs=>.tup (V.rnL g cs)
 |.hsl u i len=>match g u with |some j=>.hsl j i len|none=>.junk
 |.ptr u n i off=>match g u with |some j=>.ptr j n i off|none=>.junk
 |.mp u k=>match g u with |some j=>.mp j k|none=>.junk
 |x=>x.rl cut2
def V.rnL (g:Nat->Option Nat):List V->List V
 | []=>[]
 |x::xs=>V.rn g x::V.rnL g xs
end
def rnR (g:Nat->Option Nat)(rows:List (List V)):List (List V):=rows.map (V.rnL g)
structure Rn (g:Nat->Option Nat) (C C':Ctx) (w w':World):Prop where
 rl:Rl cut2 C C' w w'
 loc:∀ u j,g u=some j->u<C.nx->j<C'.nx/\∀ L',C'.loc j=some L'->∃ L,C.loc u=some L/\(L'=L\/L.n<L'.n)
mutual
theorem Rep.rn {g:Nat->Option Nat}{C C':Ctx}{w w':World}(E:Rn g C C' w w'):∀{v:Value} {x:V},Rep C w v x->Rep C' w' v (x.rn g)
 |_,_,.int k n=>Rep.rl E.rl (.int k n)
 |_,_,.bool b=>Rep.rl E.rl (.bool b)
 |_,_,.str s=>Rep.rl E.rl (.str s)
 |_,_,.agg h=>.agg (RepL.rn E h)
 |_,_,.tup h=>.tup (RepL.rn E h)
 |_,_,.psl0 a c l s=>Rep.rl E.rl (.psl0 a c l s)
 |_,_,.psl vals hl hn hb hlen hcap hc hr=>Rep.rl E.rl (.psl vals hl hn hb hlen hcap hc hr)
 |_,_,.psld v hl hn=>Rep.rl E.rl (.psld v hl hn)
 |_,_,.hsl (u:=u) (i:=i) (len:=len) hu h=>by
  unfold V.rn;split
  .rename_i j hj;obtain ⟨h1,h2⟩:=E.loc u j hj hu;refine .hsl h1 fun L' hL'=>?_;obtain ⟨L,hL,hor⟩:=h2 L' hL';have:=h L hL;rcases hor with rfl|hlt
   .exact this
   .exact ⟨by omega,fun he=>by omega⟩
  .exact .junk _
 |_,_,.nilsl=>Rep.rl E.rl .nilsl
 |_,_,.nilm=>Rep.rl E.rl .nilm
 |_,_,.ptr (u:=u) hu h=>by
  unfold V.rn;split
  .rename_i j hj;obtain ⟨h1,h2⟩:=E.loc u j hj hu;refine .ptr h1 fun L' hL'=>?_;obtain ⟨L,hL,hor⟩:=h2 L' hL';have:=h L hL;rcases hor with rfl|hlt
   .exact this
   .exact ⟨by omega,fun he=>by omega⟩
  .exact .junk _
 |_,_,.mp (u:=u) hu h=>by
  unfold V.rn;split
  .rename_i j hj;obtain ⟨h1,h2⟩:=E.loc u j hj hu;refine .mp h1 fun L' hL'=>?_;obtain ⟨L,hL,hor⟩:=h2 L' hL';have:=h L hL;rcases hor with rfl|hlt
   .exact this
   .exact ⟨by omega,fun he=>by omega⟩
  .exact .junk _
 |_,_,.pptr vals hl hn hb hc hr=>Rep.rl E.rl (.pptr vals hl hn hb hc hr)
 |_,_,.pptrd v hl hn=>Rep.rl E.rl (.pptrd v hl hn)
 |_,_,.nilp=>Rep.rl E.rl .nilp
 |_,_,.fn f=>Rep.rl E.rl (.fn f)
 |_,_,.junk v=>Rep.rl E.rl (.junk v)
theorem RepL.rn {g:Nat->Option Nat}{C C':Ctx}{w w':World}(E:Rn g C C' w w'):∀{vs:List Value} {xs:List V},RepL C w vs xs->RepL C' w' vs (V.rnL g xs)
 |_,_,.nil=>.nil
 |_,_,.cons h t=>.cons (Rep.rn E h) (RepL.rn E t)
end
theorem o3 {g:Nat->Option Nat}:V.rnL g []=[]:=rfl
theorem c9 {g:Nat->Option Nat}{x y:V}{xs ys:List V}(h:V.rn g x=y)(t:V.rnL g xs=ys):V.rnL g (x::xs)=y::ys:=by simp only [V.rnL,h,t]
theorem RepF.rl {v:Value}{x:V}(h:RepF v x)(f:Nat->Nat):x.rl f=x:=by cases h<;>rfl
theorem RepF.nd {v:Value}{x:V}(h:RepF v x):dpc x=false:=by cases h<;>rfl
mutual
theorem DeepV.rl {w:World}{f:Nat->Nat}(hf:f 2=2):∀{v:Value} {sz:Nat} {rows:List (List V)} {S:List Nat},DeepV w v sz rows S->V.rlR f rows=rows
 |_,_,_,_,.nil _=>rfl
 |_,_,_,_,.own _ _ _ _ _ hr=>DeepR.rl hf hr
theorem DeepR.rl {w:World}{f:Nat->Nat}(hf:f 2=2):∀{cs:List Value} {sz:Nat} {rows:List (List V)} {S:List Nat},DeepR w cs sz rows S->V.rlR f rows=rows
 |_,_,_,_,.nil _ _=>rfl
 |_,_,_,_,.cons _ h t=>by simp only [V.rlR,DeepL.rl hf h,DeepR.rl hf t]
theorem DeepL.rl {w:World}{f:Nat->Nat}(hf:f 2=2):∀{vs:List Value} {xs:List V} {S:List Nat},DeepL w vs xs S->V.rlL f xs=xs
 |_,_,_,.nil=>rfl
 |_,_,_,.flat h t=>by simp only [V.rlL,h.rl f,DeepL.rl hf t]
 |_,_,_,.deep h t=>by simp only [V.rlL,V.rl,hf,DeepV.rl hf h,DeepL.rl hf t]
end
theorem dpc_rn (g:Nat->Option Nat){x:V}(h:dpc x=false):dpc (x.rn g)=false:=by
 cases x with
 |psl l sz rows=>
  have h':Nat.ble l 1=true:=by simpa [dpc]using h
  show(!Nat.ble (cut2 l) 1)=false;have:cut2 l=l:=by unfold cut2;rw [h'];rfl
  rw [this,h'];rfl
 |hsl u i n=>unfold V.rn;split<;>rfl
 |ptr u n i o=>unfold V.rn;split<;>rfl
 |mp u=>unfold V.rn;split<;>rfl
 |_=>rfl
theorem TopL.rn {w:World}(g:Nat->Option Nat):∀{vs:List Value} {xs:List V} {S:List Nat},TopL w vs xs S->TopL w vs (V.rnL g xs) S
 |_,_,_,.nil=>.nil
 |_,_,_,.other h t=>.other (dpc_rn g h) (t.rn g)
 |_,_,_,.deep (sz:=sz) (rows:=rows) h t=>by
  have e:V.rn g (.psl 2 sz rows)=.psl 2 sz rows:=by
   show V.psl (cut2 2) sz (V.rlR cut2 rows)=_;rw [h.rl (f:=cut2) rfl];rfl
  show TopL w _ (V.rn g (.psl 2 sz rows)::V.rnL g _) _;rw [e];exact .deep h (t.rn g)
theorem TopR.rn {w:World}(g:Nat->Option Nat):∀{cs:List Value} {sz:Nat} {rows:List (List V)} {S:List Nat},TopR w cs sz rows S->TopR w cs sz (rnR g rows) S
 |_,_,_,_,.nil cs sz=>.nil cs sz
 |_,_,_,_,.cons hl h t=>.cons hl (h.rn g) (t.rn g)
theorem Deep.rn {w:World}(g:Nat->Option Nat){L:Loc}{S:List Nat}{rows:List (List V)}(h:Deep w L S rows):Deep w L S (rnR g rows):=by
 unfold Deep at *;split
 .rename_i hn;rw [hn]at h;exact h
 .rename_i b hn;rw [hn]at h;refine ⟨h.1,fun hz=>?_⟩;obtain ⟨cs,el,fz,h1,h2⟩:=h.2 hz;exact ⟨cs,el,fz,h1,h2.rn g⟩
def Ctx.lend (C:Ctx)(us:List Nat):Ctx:={ reg:=fun l b=>l<=1/\C.reg l b,lv:=fun l=>l<=1,loc:=fun j=>(us[j]?).bind C.loc,nx:=12,sub:=fun j=>match us[j]? with |some u=>C.sub u|none=>[] }
def Ctx.home (C C2:Ctx)(us:List Nat):Ctx:=
 {reg:=fun l b=>C.reg l b\/(l=1/\C2.reg 1 b),lv:=C.lv,loc:=fun x=>match dn us x with |some j=>C2.loc j|none=>C.loc x,nx:=C.nx,sub:=fun x=>match dn us x with |some j=>C2.sub j|none=>C.sub x }
def Lent (us:List Nat)(H h:List (Nat×HB)):Prop:=
 (∀ j,hget h j=none->us[j]? =none)/\∀ j hb',hget h j=some hb'->∃ u hb,us[j]? =some u/\hget H u=some hb/\hb'.sz=hb.sz/\hb'.rows=rnR (dn us) hb.rows
theorem bQ (l:Nat):(l<=1/\cut2 l=l)\/(1<l/\cut2 l=2):=by
 unfold cut2;rw [Bool.cond_eq_ite];split
 .rename_i h;rw [Nat.ble_eq]at h;exact .inl ⟨h,rfl⟩
 .rename_i h;rw [Nat.ble_eq]at h;exact .inr ⟨by omega,rfl⟩
section
variable {C:Ctx} {w:World} {us:List Nat} {H h:List (Nat×HB)}
theorem tZ (hs:HSt C w H)(hl:us.length<=12):Rn (dn us) C (C.lend us) w w:=by
 refine⟨⟨fun l _=>?_,fun l _ h=>?_,fun l b _ h hb=>⟨?_,rfl⟩⟩,fun u j hj _=>⟨?_,fun L' hL'=>⟨L',?_,.inl rfl⟩⟩⟩
 .rcases bQ l with ⟨h,e⟩|⟨h,e⟩<;>rw [e]<;>show _<12<;>omega
 .have h':cut2 l<=1:=h;rcases bQ l with ⟨h1,e⟩|⟨h1,e⟩
  .have:l=0\/l=1:=by omega
   rcases this with rfl|rfl
   .exact hs.zero.1
   .exact hs.zero.2.1
  .omega
 .have h':cut2 l<=1:=h;rcases bQ l with ⟨h1,e⟩|⟨h1,e⟩
  .rw [e];exact⟨h1,hb⟩
  .omega
 .have:=cZ hj;have hlt:j<us.length:=by
   rcases Nat.lt_or_ge j us.length with h|h
   .exact h
   .simp [List.getElem?_eq_none h]at this
  show j<12;omega
 .have h1:=cZ hj;simp only [Ctx.lend,h1,Option.bind_some]at hL';exact hL'
theorem av6 {g:Nat->Option Nat}{C':Ctx}{w':World}(E:Rn g C C' w w'){L:Loc}{rows:List (List V)}(hb:∀ b,L.blk=some b->w'.heap[b]? =w.heap[b]?)(h:Blk C w L rows):Blk C' w' L (rnR g rows):=by
 refine h.imp (by simp [rnR]) (fun e=>by rw [e];rfl) hb (fun b hn h=>?_) fun ents he=>⟨V.rnL g ents,by rw [he];rfl,fun vs hv=>RepL.rn E hv⟩
 .obtain ⟨vals,h5⟩:=h;refine ⟨vals,fun i row hi=>?_⟩;simp only [rnR,List.getElem?_map]at hi;cases hr:rows[i]? with
  |none=>simp [hr]at hi
  |some r=>
   simp [hr]at hi;subst hi;obtain ⟨g1,g2,g3⟩:=h5 i r hr;exact ⟨g1,fun j v hj=>by rw [U5 (hb b hn)];exact g2 j v hj,RepL.rn E g3⟩
theorem iO {j b:Nat}(h:b∈(C.lend us).sub j):∃ u,us[j]? =some u/\b∈C.sub u:=by
 simp only [Ctx.lend]at h;split at h
 .rename_i u hu;exact⟨u,hu,h⟩
 .cases h
theorem ac3 {j:Nat}{L:Loc}(h:(C.lend us).loc j=some L):∃ u,us[j]? =some u/\C.loc u=some L:=by
 simp only [Ctx.lend]at h;cases hu:us[j]? with
 |none=>simp [hu]at h
 |some u=>simp [hu]at h;exact⟨u,rfl,h⟩
theorem zN (hs:HSt C w H){l:Nat}(h:l<=1):C.lv l:=by
 have:l=0\/l=1:=by omega
 rcases this with rfl|rfl
 .exact hs.zero.1
 .exact hs.zero.2.1
theorem lend_sub (hs:HSt C w H)(hd:distinct us=true)(hL:Lent us H h):Sub (C.lend us) w h:=by
 refine⟨fun j hb' L hj hl=>?_,fun j hl=>?_,fun j=>?_,fun j b hb=>?_,fun j b j' L hb h1 h2=>?_,fun j j' b hb hb'=>?_,fun j b l hb h1 h2=>?_⟩
 .obtain ⟨u,hb,g1,g2,g3,g4⟩:=hL.2 j hb' hj;obtain ⟨u',k1,k2⟩:=ac3 hl;rw [g1]at k1;simp only [Option.some.injEq]at k1;subst k1;have:(C.lend us).sub j=C.sub u:=by simp only [Ctx.lend,g1]
  rw [this,g4];exact (hs.sub.dp u hb L g2 k2).rn _
 .simp only [Ctx.lend]at hl |-;cases hu:us[j]? with
  |none=>rfl
  |some u=>rw [hu]at hl;exact hs.sub.s0 u hl
 .simp only [Ctx.lend];split
  .exact hs.sub.nd _
  .exact .nil
 .obtain ⟨u,_,h2⟩:=iO hb;exact hs.sub.lt u b h2
 .obtain ⟨u,_,k2⟩:=iO hb;obtain ⟨u',_,k4⟩:=ac3 h1;exact hs.sub.root u b u' L k2 k4 h2
 .obtain ⟨u,k1,k2⟩:=iO hb;obtain ⟨u',k3,k4⟩:=iO hb';have:=hs.sub.dis u u' b k2 k4;subst this;have e1:=zG hd k1;have e2:=zG hd k3;rw [e1]at e2;exact Option.some.inj e2
 .obtain ⟨u,_,k2⟩:=iO hb;exact hs.sub.reg u b l k2 (zN hs h1) h2.2
theorem au2 (hs:HSt C w H)(hl:us.length<=12)(hd:distinct us=true)(hL:Lent us H h):HSt (C.lend us) w h:=by
 have E:=tZ hs hl;have hloc:∀ j L,(C.lend us).loc j=some L->∃ u,us[j]? =some u/\C.loc u=some L:=fun j L h=>by
  simp only [Ctx.lend]at h;cases hu:us[j]? with
  |none=>simp [hu]at h
  |some u=>simp [hu]at h;exact⟨u,rfl,h⟩
 refine⟨fun j hj=>?_,fun j hb' hj=>?_,fun j L hj=>?_,fun j j' L L' b h1 h2 h3 h4=>?_,fun j L b l h1 h2 h3 h4=>?_,fun l b h1 h2=>?_,fun l h=>?_,fun l l' b h1 h2 h3 h4=>?_,⟨Nat.zero_le _,Nat.le_refl _,by show ¬ 2<=1;omega⟩,by show 11<12;omega,lend_sub hs hd hL,fun b hb=>⟨⟨Nat.zero_le _,(hs.tab b hb).1⟩,(hs.tab b hb).2⟩⟩
 .simp only [Ctx.lend,hL.1 j hj,Option.bind_none]
 .obtain ⟨u,hb,g1,g2,g3,g4⟩:=hL.2 j hb' hj;obtain ⟨L,e1,e2,e3,e4⟩:=hs.ent u hb g2;refine ⟨L,by simp [Ctx.lend,g1,e1],by rw [e2,g3],by rw [e3,g4];simp [rnR],?_⟩;rw [g4];exact av6 E (fun _ _=>rfl) e4
 .obtain ⟨u,h1,h2⟩:=hloc j L hj;have hlt:j<us.length:=by
   rcases Nat.lt_or_ge j us.length with h|h
   .exact h
   .simp [List.getElem?_eq_none h]at h1
  show j<12;omega
 .obtain ⟨u,g1,g2⟩:=hloc j L h1;obtain ⟨u',g3,g4⟩:=hloc j' L' h2;have:=hs.inj u u' L L' b g2 g4 h3 h4;subst this;have e1:=zG hd g1;have e2:=zG hd g3;rw [e1]at e2;exact Option.some.inj e2
 .obtain ⟨u,g1,g2⟩:=hloc j L h1;have hlv:C.lv l:=by
   have h3':l<=1:=h3;have:l=0\/l=1:=by omega
   rcases this with rfl|rfl
   .exact hs.zero.1
   .exact hs.zero.2.1
  exact hs.own u L b l g2 h2 hlv h4.2
 .have h1':l<=1:=h1;have hlv:C.lv l:=by
   have:l=0\/l=1:=by omega
   rcases this with rfl|rfl
   .exact hs.zero.1
   .exact hs.zero.2.1
  exact hs.regs l b hlv h2.2
 .have h':l<=1:=h;show l<12;omega
 .have hlv:∀ l,l<=1->C.lv l:=fun l hl=>by
   have:l=0\/l=1:=by omega
   rcases this with rfl|rfl
   .exact hs.zero.1
   .exact hs.zero.2.1
  exact hs.rdis l l' b (hlv l h3.1) (hlv l' h4.1) h3.2 h4.2
def HomeOK (us:List Nat)(H h2 H2:List (Nat×HB)):Prop:=
 ∀ x,(∀ j,dn us x=some j->hget H2 x=(hget h2 j).map fun hb=>⟨hb.sz,rnR (us[·]?) hb.rows⟩)/\(dn us x=none->hget H2 x=hget H x)
theorem cL {b:Nat}(h:Own (C.lend us) b):∃(j u:Nat),us[j]? =some u/\Has C u b:=by
 rcases h with ⟨j,L,h1,h2⟩|⟨l,h1,h2,_⟩|⟨j,h⟩
 .obtain ⟨u,hu,h1⟩:=ac3 h1;exact ⟨j,u,hu,.inl ⟨L,h1,h2⟩⟩
 .have:l<=1:=h2;omega
 .obtain ⟨u,hu,h⟩:=iO h;exact ⟨j,u,hu,.inr h⟩
theorem lent_in (hL:Lent us H h){j u:Nat}(hu:us[j]? =some u):∃ hb,hget H u=some hb:=by
 cases hj:hget h j with
 |none=>rw [hL.1 j hj]at hu;cases hu
 |some hb'=>
  obtain⟨u',hb,g1,g2,_⟩:=hL.2 j hb' hj;rw [hu]at g1;simp only [Option.some.injEq]at g1;subst g1;exact ⟨hb,g2⟩
theorem get_lt8 (hl:us.length<=12){j u:Nat}(h:us[j]? =some u):j<12:=by
 have hlt:j<us.length:=by
  rcases Nat.lt_or_ge j us.length with h'|h'
  .exact h'
  .simp [List.getElem?_eq_none h']at h
 omega
theorem as5 {C2:Ctx}{w':World}(hl:us.length<=12)(F:Fr (C.lend us) C2 w w'):Fr C (C.home C2 us) w w' where
 size:=F.size
 keep b hb ho:=F.keep b hb fun h=>by
  obtain⟨j,u,_,h2⟩:=cL h;exact ho h2.own
 own b h:=by
  have key:Own C2 b->Own C b\/w.heap.size<=b:=fun h=>by
   rcases F.own b h with h|h
   .obtain ⟨j,u,_,h2⟩:=cL h;exact .inl h2.own
   .exact .inr h
  rcases h with ⟨x,L,h1,h2⟩|⟨l,h1,h2,h3⟩|⟨x,h1⟩
  .simp only [Ctx.home]at h1;split at h1
   .rename_i j hj;exact key (.inl ⟨j,L,h1,h2⟩)
   .exact .inl (.inl ⟨x,L,h1,h2⟩)
  .rcases h3 with h3|⟨e,_⟩
   .exact .inl (.inr (.inl ⟨l,h1,h2,h3⟩))
   .omega
  .simp only [Ctx.home]at h1;split at h1
   .rename_i j hj;exact key (.inr (.inr ⟨j,h1⟩))
   .exact .inl (.inr (.inr ⟨x,h1⟩))
 r0 b h:=by
  rcases h with h|⟨e,_⟩
  .exact h
  .omega
 r1 b h:=by
  rcases h with h|⟨_,h⟩
  .exact .inl h
  .rcases F.r1 b h with h|h|h
   .exact .inl h.2
   .obtain ⟨j,u,_,h2⟩:=cL h;exact .inr (.inl h2.own)
   .exact .inr (.inr h)
 os:=F.os
 out:=F.out
 low u hu L' h:=by
  simp only [Ctx.home]at h;split at h
  .rename_i j hj;have hg:=cZ hj;obtain ⟨L,h1,h2⟩:=F.low j (get_lt8 hl hg) L' h;simp only [Ctx.lend,hg,Option.bind_some]at h1;exact ⟨L,h1,h2⟩
  .exact ⟨L',h,.inl rfl⟩
theorem vT {C2:Ctx}{w':World}(hs:HSt C w H)(hl:us.length<=12)(F:Fr (C.lend us) C2 w w'):Ext C (C.home C2 us) w w' where
 nx:=Nat.le_refl _
 loc u L' hu h:=by
  simp only [Ctx.home]at h;split at h
  .rename_i j hj;have hg:=cZ hj;obtain ⟨L,h1,h2⟩:=F.low j (get_lt8 hl hg) L' h;simp only [Ctx.lend,hg,Option.bind_some]at h1;exact ⟨L,h1,h2⟩
  .exact ⟨L',h,.inl rfl⟩
 lv l _ h:=h
 reg l b _ hlv hb:=⟨.inl hb,F.keep b (hs.regs l b hlv hb) fun h=>by
  obtain⟨j,u,_,h2⟩:=cL h;exact hs.has_reg h2 hlv hb⟩
theorem af6 {C2:Ctx}{w':World}{h2:List (Nat×HB)}(hs:HSt C w H)(hd:distinct us=true)(hL:Lent us H h)(F:Fr (C.lend us) C2 w w')(hst:HSt C2 w' h2):Rn (us[·]?) C2 (C.home C2 us) w' w':=by
 refine⟨⟨fun l _=>?_,fun l _ hlv=>?_,fun l b _ hlv hb=>⟨?_,rfl⟩⟩,fun j u hj _=>⟨?_,fun L' hL'=>⟨L',?_,.inl rfl⟩⟩⟩
 .have:=hs.two;rcases bQ l with ⟨h,e⟩|⟨h,e⟩<;>rw [e]<;>show _<C.nx<;>omega
 .rcases bQ l with ⟨h,e⟩|⟨h,e⟩
  .have:l=0\/l=1:=by omega
   rcases this with rfl|rfl
   .exact hst.zero.1
   .exact hst.zero.2.1
  .rw [e]at hlv;exact absurd hlv hs.zero.2.2
 .rcases bQ l with ⟨h,e⟩|⟨h,e⟩
  .rw [e];have:l=0\/l=1:=by omega
   rcases this with rfl|rfl
   .exact .inl (F.r0 b hb).2
   .exact .inr ⟨rfl,hb⟩
  .rw [e]at hlv;exact absurd hlv hs.zero.2.2
 .obtain ⟨hb,hu⟩:=lent_in hL hj;obtain ⟨L,e1,_⟩:=hs.ent u hb hu;exact hs.lt u L e1
 .simp only [Ctx.home,zG hd hj]at hL';exact hL'
theorem as6 {C2:Ctx}{w':World}{h2 H2:List (Nat×HB)}(hs:HSt C w H)(hl:us.length<=12)(hd:distinct us=true)(hL:Lent us H h)(F:Fr (C.lend us) C2 w w')(hst:HSt C2 w' h2)(hH:HomeOK us H h2 H2):HSt (C.home C2 us) w' H2:=by
 have E:=vT hs hl F;have R:=af6 hs hd hL F hst;have hdn':∀{u b},Own (C.lend us) b->Has C u b->∃ j,dn us u=some j:=fun h h1=>by
  obtain⟨j,u',g1,g2⟩:=cL h;have:=hs.has_inj g2 h1;subst this;exact ⟨j,zG hd g1⟩
 have hdn:∀{u L b},Own (C.lend us) b->C.loc u=some L->L.blk=some b->∃ j,dn us u=some j:=fun h h1 h2=>hdn' h (.inl ⟨_,h1,h2⟩);have hsubs:∀{x b},b∈(C.home C2 us).sub x->(∃ j,dn us x=some j/\b∈C2.sub j)\/(dn us x=none/\b∈C.sub x):=fun{x b} h=>by
  simp only [Ctx.home]at h;split at h
  .rename_i j hj;exact .inl ⟨j,hj,h⟩
  .rename_i hj;exact .inr ⟨hj,h⟩
 have hlocs:∀{x L},(C.home C2 us).loc x=some L->(∃ j,dn us x=some j/\C2.loc j=some L)\/(dn us x=none/\C.loc x=some L):=fun{x L} h=>by
  simp only [Ctx.home]at h;split at h
  .rename_i j hj;exact .inl ⟨j,hj,h⟩
  .rename_i hj;exact .inr ⟨hj,h⟩
 have hback:∀{j b},Has C2 j b->∀{x},dn us x=none->Has C x b->False:=fun{j b} g1 {x} g3 g4=>by
  rcases F.own b g1.own with h|h
  .obtain ⟨j,hj⟩:=hdn' h g4;rw [g3]at hj;cases hj
  .have:=hs.has_lt g4;omega
 refine⟨fun x hx=>?_,fun x hb hx=>?_,fun x L hx=>?_,fun x x' L L' b h1 h2 h3 h4=>?_,fun x L b l h1 h2 h3 h4=>?_,fun l b h1 h2=>?_,hs.lvs,fun l l' b h1 h2 h3 h4=>?_,hs.zero,hs.two,?_,hs.tabE E hs.zero.1⟩
 .simp only [Ctx.home];split
  .rename_i j hj;rw [(hH x).1 j hj]at hx;refine hst.dom j ?_;cases hg:hget h2 j with
   |none=>rfl
   |some q=>rw [hg]at hx;cases hx
  .rename_i hj;rw [(hH x).2 hj]at hx;exact hs.dom x hx
 .cases hj:dn us x with
  |some j=>
   rw [(hH x).1 j hj]at hx;cases hg:hget h2 j with
   |none=>rw [hg]at hx;cases hx
   |some q=>
    rw [hg]at hx;simp only [Option.map_some,Option.some.injEq]at hx;subst hx;obtain ⟨L,e1,e2,e3,e4⟩:=hst.ent j q hg;exact ⟨L,by simp [Ctx.home,hj,e1],e2,by rw [e3];simp [rnR],av6 R (fun _ _=>rfl) e4⟩
  |none=>
   rw [(hH x).2 hj]at hx;obtain ⟨L,e1,e2,e3,e4⟩:=hs.ent x hb hx;refine ⟨L,by simp [Ctx.home,hj,e1],e2,e3,e4.mono E fun b hbk=>F.keep b (jY e4 hbk) fun h=>?_⟩;obtain ⟨j,hj'⟩:=hdn h e1 hbk;rw [hj]at hj';cases hj'
 .simp only [Ctx.home]at hx;split at hx
  .rename_i j hj;obtain ⟨hb,hu⟩:=lent_in hL (cZ hj);obtain ⟨L0,e1,_⟩:=hs.ent x hb hu;exact hs.lt x L0 e1
  .exact hs.lt x L hx
 .have mix:∀{j x' L L'},C2.loc j=some L->L.blk=some b->dn us x'=none->C.loc x'=some L'->L'.blk=some b->False:=fun g1 g2 g3 g4 g5=>by
   rcases F.own b (.inl ⟨_,_,g1,g2⟩)with h|h
   .obtain ⟨j,hj⟩:=hdn h g4 g5;rw [g3]at hj;cases hj
   .have:=loc_lt hs g4 g5;omega
  simp only [Ctx.home]at h1 h2;cases hj:dn us x with
  |some j=>
   rw [hj]at h1;simp only at h1;cases hj':dn us x' with
   |some j'=>
    rw [hj']at h2;simp only at h2;have:=hst.inj j j' L L' b h1 h2 h3 h4;subst this;have e1:=cZ hj;have e2:=cZ hj';rw [e1]at e2;exact Option.some.inj e2
   |none=>
    rw [hj']at h2;simp only at h2;exact (mix h1 h3 hj' h2 h4).elim
  |none=>
   rw [hj]at h1;simp only at h1;cases hj':dn us x' with
   |some j'=>
    rw [hj']at h2;simp only at h2;exact (mix h2 h4 hj h1 h3).elim
   |none=>
    rw [hj']at h2;simp only at h2;exact hs.inj x x' L L' b h1 h2 h3 h4
 .simp only [Ctx.home]at h1;split at h1
  .rename_i j hj;rcases h4 with h4|⟨rfl,h4⟩
   .rcases F.own b (.inl ⟨_,_,h1,h2⟩)with h|h
    .obtain ⟨j,u,_,g2⟩:=cL h;exact (hs.has_reg g2 h3 h4).elim
    .have:=hs.regs l b h3 h4;omega
   .exact hst.own j L b 1 h1 h2 hst.zero.2.1 h4
  .rename_i hn;rcases h4 with h4|⟨rfl,h4⟩
   .exact hs.own x L b l h1 h2 h3 h4
   .rcases F.r1 b h4 with h|h|h
    .exact hs.own x L b 1 h1 h2 h3 h.2
    .obtain ⟨j,hj⟩:=hdn h h1 h2;rw [hn]at hj;cases hj
    .have:=loc_lt hs h1 h2;omega
 .rcases h2 with h2|⟨rfl,h2⟩
  .exact Nat.lt_of_lt_of_le (hs.regs l b h1 h2) F.size
  .exact hst.regs 1 b hst.zero.2.1 h2
 .have mix:∀{l},C.lv l->C.reg l b->C2.reg 1 b->l=1:=fun g1 g2 g3=>by
   rcases F.r1 b g3 with h|h|h
   .exact hs.rdis _ 1 b g1 hs.zero.2.1 g2 h.2
   .obtain ⟨j,u,_,e2⟩:=cL h;exact (hs.has_reg e2 g1 g2).elim
   .have:=hs.regs _ b g1 g2;omega
  rcases h3 with h3|⟨rfl,h3⟩<;>rcases h4 with h4|⟨rfl,h4⟩
  .exact hs.rdis l l' b h1 h2 h3 h4
  .exact mix h1 h3 h4
  .exact (mix h2 h4 h3).symm
  .rfl
 .refine ⟨fun x hb L hx hl=>?_,fun x hl=>?_,fun x=>?_,fun x b hb=>?_,fun x b x' L hb h1 h2=>?_,fun x x' b hb hb'=>?_,fun x b l hb h1 h2=>?_⟩
  .rcases hlocs hl with ⟨j,hj,hl⟩|⟨hj,hl⟩
   .rw [(hH x).1 j hj]at hx;cases hg:hget h2 j with
    |none=>rw [hg]at hx;cases hx
    |some q=>
     rw [hg]at hx;simp only [Option.map_some,Option.some.injEq]at hx;subst hx;have:(C.home C2 us).sub x=C2.sub j:=by simp only [Ctx.home,hj]
     rw [this];exact (hst.sub.dp j q L hg hl).rn _
   .rw [(hH x).2 hj]at hx;have:(C.home C2 us).sub x=C.sub x:=by simp only [Ctx.home,hj]
    rw [this];have kp:∀ b,Has C x b->w'.heap[b]? =w.heap[b]? :=fun b hb=>F.keep b (hs.has_lt hb) fun ho=>by
     obtain⟨j,hj'⟩:=hdn' ho hb;rw [hj]at hj';cases hj'
    exact hs.sub.old hx hl (fun b hb=>kp b (.inl ⟨L,hl,hb⟩)) (fun b hb=>kp b (.inr hb))
  .simp only [Ctx.home]at hl |-;split at hl
   .rename_i j hj;exact hst.sub.s0 j hl
   .rename_i hj;exact hs.sub.s0 x hl
  .simp only [Ctx.home];split
   .exact hst.sub.nd _
   .exact hs.sub.nd _
  .rcases hsubs hb with ⟨j,_,hb⟩|⟨_,hb⟩
   .exact hst.sub.lt j b hb
   .exact Nat.lt_of_lt_of_le (hs.sub.lt x b hb) F.size
  .rcases hsubs hb with ⟨j,hj,hb⟩|⟨hj,hb⟩<;>rcases hlocs h1 with ⟨j',hj',h1⟩|⟨hj',h1⟩
   .exact hst.sub.root j b j' L hb h1 h2
   .exact hback (.inr hb) hj' (.inl ⟨L,h1,h2⟩)
   .exact hback (.inl ⟨L,h1,h2⟩) hj (.inr hb)
   .exact hs.sub.root x b x' L hb h1 h2
  .rcases hsubs hb with ⟨j,hj,hb⟩|⟨hj,hb⟩<;>rcases hsubs hb' with ⟨j',hj',hb'⟩|⟨hj',hb'⟩
   .have:=hst.sub.dis j j' b hb hb';subst this;have e1:=cZ hj;have e2:=cZ hj';rw [e1]at e2;exact Option.some.inj e2
   .exact (hback (.inr hb) hj' (.inr hb')).elim
   .exact (hback (.inr hb') hj (.inr hb)).elim
   .exact hs.sub.dis x x' b hb hb'
  .rcases h2 with h2|⟨rfl,h2⟩
   .rcases hsubs hb with ⟨j,hj,hb⟩|⟨hj,hb⟩
    .rcases F.own b (.inr (.inr ⟨j,hb⟩))with h|h
     .obtain ⟨_,u,_,g2⟩:=cL h;exact hs.has_reg g2 h1 h2
     .have:=hs.regs l b h1 h2;omega
    .exact hs.sub.reg x b l hb h1 h2
   .rcases hsubs hb with ⟨j,hj,hb⟩|⟨hj,hb⟩
    .exact hst.sub.reg j b 1 hb hst.zero.2.1 h2
    .rcases F.r1 b h2 with h|h|h
     .exact hs.sub.reg x b 1 hb hs.zero.2.1 h.2
     .obtain ⟨j,hj'⟩:=hdn' h (.inr hb);rw [hj]at hj';cases hj'
     .have:=hs.sub.lt x b hb;omega
theorem ad7 {P:Program}{s:St}{ops:Array Oper}{f:FuncId}{args:List Operand}{args':List V}{R:V->List (Nat×HB)->Prop}{tys:Array TypeId}{d:Option Nat}{ty:Nat}{pos:String}{af:Array Edge}{gu:Option (Nat×Bool)}{r:List Oper}{K:St->Prop}
 (us:List Nat) {h:List (Nat×HB)} (hc:FC P f args' h 12 R) (hg:gd ops.toList s gu=some true) (hl:Nat.ble us.length 12=true) (hd:distinct us=true) (hv:V.rnL (dn us) (evL s args)=args') (hL:Lent us s.heap h)
 (hk:∀ x h2,R x h2->∃ H2 s1,HomeOK us s.heap h2 H2/\({ s with heap:=H2 }:St).put d (x.rn (us[·]?))=some s1/\AOps P ops r s1 K):
 AOps P ops (⟨d,.call ⟨.value (.func f),⟨args⟩,tys⟩,ty,pos,af,gu⟩::r) s K:=
 pQ hg hc.1 fun C w a hs=>by
  have hl':us.length<=12:=Nat.le_of_ble_eq_true hl;have hargs:RepL (C.lend us) w (args.map a.eval) args':=by
   rw [<- hv];exact RepL.rn (tZ hs.heap hl') (nM hs args)
  refine(hc.2 (C.lend us) w ⟨args.map a.eval⟩ rfl (au2 hs.heap hl' hd hL) hargs).mono ?_;rintro e w' ⟨v,C2,x,h2,rfl,e2,e3,e4,e5⟩;obtain ⟨H2,s1,p1,p2,p3⟩:=hk x h2 e5;have E:=vT hs.heap hl' e4;exact ⟨v,C.home C2 us,s1,rfl,W2 (C:=C.home C2 us) (w:=w') (s:={ s with heap:=H2 }) ⟨hs.defers,hs.size,hs.nx,fun i=>(hs.env i).mono E,as6 hs.heap hl' hd hL e4 e2 p1,hs.lv⟩ (Rep.rn (af6 hs.heap hd hL e4 e2) e3) p2,as5 hl' e4,p3⟩
theorem D1 {P:Program}{s:St}{ops:Array Oper}{f:FuncId}{args:List Operand}{args':List V}{tys:Array TypeId}{d:Option Nat}{ty:Nat}{pos:String}{af:Array Edge}{gu:Option (Nat×Bool)}{r:List Oper}{K:St->Prop}{s1:St}
 (u:Nat) {sz sz2:Nat} {rows0 rows2:List (List V)} {y:V} (hc:FC P f args' [(0,⟨sz,rows0⟩)] 12 (fun x h2=>x=y/\hget h2 0=some ⟨sz2,rows2⟩)) (hg:gd ops.toList s gu=some true) (hv:V.rnL (dn [u]) (evL s args)=args')
 (hu:hget s.heap u=some ⟨sz,rows0⟩) (hin:rnR (dn [u]) rows0=rows0) (hy:y.rn ([u][·]?)=y) (hout:rnR ([u][·]?) rows2=rows2) (hp:(s.wr u ⟨sz2,rows2⟩).put d y=some s1) (h:AOps P ops r s1 K):
 AOps P ops (⟨d,.call ⟨.value (.func f),⟨args⟩,tys⟩,ty,pos,af,gu⟩::r) s K:=by
 refine ad7 [u] hc hg rfl rfl hv ⟨fun j hj=>?_,fun j hb' hj=>?_⟩ fun x h2 hR=>⟨(u,⟨sz2,rows2⟩)::s.heap,s1,fun x=>⟨fun j hj=>?_,fun hj=>?_⟩,?_,h⟩
 .cases j with
  |zero=>cases hj
  |succ j=>simp
 .cases j with
  |zero=>
   simp only [hget,Nat.beq_refl,cond_true,Option.some.injEq]at hj;subst hj;exact ⟨u,⟨sz,rows0⟩,rfl,hu,rfl,hin.symm⟩
  |succ j=>cases hj
 .have hx:=cZ hj;have hj0:j=0:=by
   cases j with
   |zero=>rfl
   |succ j=>simp at hx
  subst hj0;simp at hx;subst hx;simp only [hget,Nat.beq_refl,cond_true,hR.2,Option.map_some,hout]
 .have hne:Nat.beq x u=false:=by
   cases hb:Nat.beq x u
   .rfl
   .simp [dn,hb]at hj
  simp only [hget,hne,cond_false]
 .rw [hR.1,hy];cases s;exact hp
end
end Go.Abs

namespace Go.Abs
section
variable {P:Program} {T:List TI} {s:St} {ops:Array Oper} {d:Option Nat} {ty:Nat} {pos:String} {af:Array Edge} {gu:Option (Nat×Bool)} {r:List Oper} {K:St->Prop} {s1:St}
theorem ov_maddr {α:Type}{en:α->List V}{l:List α}{t u sz len:Nat}{x y:Operand}{e:Nat}{k:IntKind}{n:Int}(hT:TabOK P T)(ht:elemT T t=some (e,sz))(hx:ev s x=.hsl u 0 len)(hu:hget s.heap u=some ⟨sz,l.map en⟩)(hlen:len=l.length)
 (hi:ev s y=.int k n) (h0:0<=n/\n<l.length):OpVal P s (.indexAddr t x y) (.ptr u l.length n.toNat 0):=by
 subst hlen;have:=ov_haddr (x:=x) (i:=y) (n:=n) hT ht hx hu (by simp) hi ⟨h0.1,by omega⟩;simpa using this
theorem ov_mhlen {α:Type}{en:α->List V}{l:List α}{t u sz len e sz':Nat}{x:Operand}(hT:TabOK P T)(ht:elemT T t=some (e,sz'))(hx:ev s x=.hsl u 0 len)(hu:hget s.heap u=some ⟨sz,l.map en⟩)(hlen:len=l.length):
 OpVal P s (.call ⟨.builtin .len,⟨[x]⟩,⟨[t]⟩⟩) (.int .i64 l.length):=by
 subst hlen;exact ov_hlen hT ht hx hu (by simp)
theorem ov_mload {α:Type}{en:α->List V}{l:List α}{dv:α}{t u sz i off:Nat}{y:Operand}{ti:TI}{x:V}(hT:TabOK P T)(ht:T[t]? =some ti)(hy:ev s y=.ptr u l.length i off)(hu:hget s.heap u=some ⟨sz,l.map en⟩)(hi:i<l.length)
 (hl:loadRow ti (en (l.getD i dv)) off=some x):OpVal P s (.load t y) x:=by
 refine uA (T:=T) hT ?_;simp only [pstep,ht,hy,hu,List.length_map,Nat.beq_refl,cond_true];rw [map_get (d:=dv) hi];exact hl
end
end Go.Abs

namespace Go.Abs
structure Src (P:Program) (C:Ctx) (w:World) (sz:Nat) (ys:List (List V)) (x:Value) (news:List Value):Prop where
 len:∀ w',(Builtin.lenOf x).run P w'=.ok ys.length w'
 cells:∀ w',Agree w w'->(Builtin.firstCells sz ys.length x).run P w'=.ok news.toArray w'
 size:news.length=ys.length * sz
 rows:RowsIn C w ⟨news⟩ sz ys
 one:∀ u∈news,u.oneCell'=true
 flat:flatR ys=true
section
variable {P:Program} {T:List TI} {s:St} {C:Ctx} {w:World} {a:Act}
theorem flat_len {sz:Nat}:∀(vals:List (List Value)),(∀ vs∈vals,vs.length=sz)->vals.flatten.length=vals.length * sz
 | [],_=>by simp
 |x::r,h=>by rw [List.flatten_cons,List.length_append,h x (by simp),flat_len r (fun vs hv=>h vs (by simp [hv])),List.length_cons,Nat.succ_mul,Nat.add_comm]
theorem flat_at {sz:Nat}:∀(vals:List (List Value)),(∀ vs∈vals,vs.length=sz)->∀(k:Nat) (u:Value),vals.flatten[k]? =some u->∃ i j vs,vals[i]? =some vs/\vs[j]? =some u/\k=i * sz+j
 | [],_,k,u,h=>by simp at h
 |x::r,hall,k,u,h=>by
  have hx:=hall x (by simp);rw [List.flatten_cons]at h;by_cases hk:k<x.length
  .rw [List.getElem?_append_left hk]at h;exact ⟨0,k,x,rfl,h,by simp⟩
  .rw [List.getElem?_append_right (by omega)]at h;obtain ⟨i,j,vs,h1,h2,h3⟩:=flat_at r (fun vs hv=>hall vs (by simp [hv])) _ u h;exact ⟨i+1,j,vs,by simpa using h1,h2,by rw [Nat.succ_mul];omega⟩
theorem one_flatR (hs:StRep C w a s){ys:List (List V)}(h:∀ row∈ys,row.all (oneV s)=true):flatR ys=true:=by
 unfold flatR;rw [List.all_eq_true];exact fun row hr=>one_flats hs (h row hr)
theorem src_cells (hs:StRep C w a s){sz b off len cap:Nat}{ys:List (List V)}{vals:Nat->List Value}(hlen:len=ys.length)
 (hc:∀ i row,ys[i]? =some row->(vals i).length=sz/\(∀ j v,(vals i)[j]? =some v->w.cell? ⟨b,off+i * sz+j,none⟩=some v)/\RepL C w (vals i) row)
 (hone:∀ row∈ys,row.all (oneV s)=true):∃ news,Src P C w sz ys (.slice (some ⟨b,off,none⟩) len cap) news:=by
 have hget:∀ i row,ys[i]? =some row->((List.range ys.length).map vals)[i]? =some (vals i):=fun i row hi=>by
  have hlt:=(List.getElem?_eq_some_iff.1 hi).1;rw [List.getElem?_map,List.getElem?_range hlt];rfl
 have hback:∀ i vs,((List.range ys.length).map vals)[i]? =some vs->∃ row,ys[i]? =some row/\vs=vals i:=fun i vs hi=>by
  have hlt:i<ys.length:=by simpa using (List.getElem?_eq_some_iff.1 hi).1
  rw [List.getElem?_map,List.getElem?_range hlt]at hi;simp at hi;exact ⟨ys[i],List.getElem?_eq_getElem hlt,hi.symm⟩
 have hall:∀ vs∈(List.range ys.length).map vals,vs.length=sz:=fun vs hv=>by
  obtain⟨i,hi⟩:=List.getElem?_of_mem hv;obtain ⟨row,h1,rfl⟩:=hback i vs hi;exact (hc i row h1).1
 have hfl:=flat_len _ hall;rw [List.length_map,List.length_range]at hfl;refine ⟨((List.range ys.length).map vals).flatten,fun w'=>by simp [Builtin.lenOf,hlen],fun w' hw=>?_,hfl,⟨vals,fun i row hi=>⟨(hc i row hi).1,fun j v hj=>?_,(hc i row hi).2.2⟩⟩,fun u hu=>?_,one_flatR hs hone⟩
 .refine run_firstCells_some w' sz ys.length ⟨b,off,none⟩ len cap _ hfl fun k u hk=>?_;obtain ⟨i,j,vs,h1,h2,rfl⟩:=flat_at _ hall k u hk;obtain ⟨row,h3,rfl⟩:=hback i vs h1;rw [cG,<- Nat.add_assoc];exact hw.cell ((hc i row h3).2.1 j u h2)
 .rw [List.getElem?_toArray];exact tL _ hall i j _ v (hget i row hi) hj
 .obtain ⟨k,hk⟩:=List.getElem?_of_mem hu;obtain ⟨i,j,vs,h1,h2,rfl⟩:=flat_at _ hall k u hk;obtain ⟨row,h3,rfl⟩:=hback i vs h1;exact all_one hs (hc i row h3).2.2 (hone row (List.mem_of_getElem? h3)) u (List.mem_of_getElem? h2)
theorem src_none (C:Ctx)(w:World)(sz:Nat)(ao:Option Addr)(cap:Nat):Src P C w sz [] (.slice ao 0 cap) []:=by
 refine⟨fun w'=>by simp [Builtin.lenOf],fun w' _=>?_,by simp,⟨fun _=>[],fun i row hi=>by simp at hi⟩,fun u hu=>by simp at hu,rfl⟩;cases ao with
 |none=>simp [Builtin.firstCells]
 |some ad=>exact run_firstCells_some w' sz 0 ad 0 cap [] (by simp) (fun j v h=>by simp at h)
theorem src_psl (hs:StRep C w a s){l sz:Nat}{ys:List (List V)}{y:Operand}(hy:ev s y=.psl l sz ys)(hl:s.live l=true)(hone:∀ row∈ys,row.all (oneV s)=true):∃ news,Src P C w sz ys (a.eval y) news:=by
 have hv:=hs.ev y;rw [hy]at hv;generalize a.eval y=v at hv;cases hv with
 |psl0 ao cap=>exact⟨[],src_none C w sz ao cap⟩
 |psl vals h1 h2 h3 hlen _ h4 h5=>exact src_cells hs hlen (fun i row hi=>⟨(h4 i row hi).1,(h4 i row hi).2,h5 i row hi⟩) hone
 |psld v h1 _=>exact absurd (hs.live hl) h1
theorem src_hsl (hs:StRep C w a s){u n sz:Nat}{ys:List (List V)}{y:Operand}(hy:ev s y=.hsl u 0 n)(hu:hget s.heap u=some ⟨sz,ys⟩)(hn:n=ys.length)(hone:∀ row∈ys,row.all (oneV s)=true):∃ news,Src P C w sz ys (a.eval y) news:=by
 have hv:=hs.ev y;rw [hy]at hv;generalize a.eval y=v at hv;obtain ⟨L,h1,h2,h3,h4,h5⟩:=aO hs.heap hv hu (by show 0+n=ys.length;omega);unfold HSL at h5;cases hb:L.blk with
 |none=>
  rw [hb]at h5;simp only at h5;unfold Blk at h4;rw [hb]at h4;have:ys=[]:=h4.1;subst this;rw [h5];exact ⟨[],src_none C w sz none 0⟩
 |some b=>
  rw [hb]at h5;simp only at h5;obtain ⟨cs,el,fz,g1,g2,g3,g4,vals,g5⟩:=fQ hb h5.1 h4;rw [h5.2,Nat.zero_mul];refine src_cells (vals:=vals) hs hn (fun i row hi=>?_) hone;have h2':L.sz=sz:=h2;rw [<- h2'];exact g5 i row hi
theorem rowsIn_take {cs:List Value}{sz:Nat}{rows:List (List V)}(h:RowsIn C w ⟨cs⟩ sz rows):RowsIn C w ⟨cs.take (rows.length * sz)⟩ sz rows:=by
 obtain⟨vals,hv⟩:=h;refine ⟨vals,fun i row hi=>⟨(hv i row hi).1,fun j v hj=>?_,(hv i row hi).2.2⟩⟩;have h1:=(hv i row hi).2.1 j v hj;have hjl:j<sz:=by
  have:=(List.getElem?_eq_some_iff.1 hj).1;rw [(hv i row hi).1]at this;exact this
 have hil:=(List.getElem?_eq_some_iff.1 hi).1;rw [List.getElem?_toArray]at h1 |-;rw [List.getElem?_take,if_pos]
 .exact h1
 .have:(i+1) * sz<=rows.length * sz:=Nat.mul_le_mul_right _ hil;rw [Nat.succ_mul]at this;omega
theorem bO (w:World):Agree w w.drew:=⟨Nat.le_refl _,fun _ _=>rfl,rfl,rfl⟩
theorem ai8 {t tx ty e sz:Nat}(hu:P.underlying t=some (.slice e)){i:TypeInfo}(hi:∀ w,(typeInfo e).run P w=.ok i w)(hsz:i.size=sz)(hx:∃ dsc,P.underlying tx=some dsc/\(∀ k,dsc≠ .int k))
 {b n cap:Nat} {el:TypeId} {fz:Nat×Nat} {cells:Array Value} {ys:List (List V)} {x:Value} {news:List Value} (hs:Src P C w sz ys x news) (hb:w.heap[b]? =some (.cells cells el fz)) (hfz:∀ o,o<cells.size->¬ (fz.1<=o/\o<fz.2))
 (hcap:cells.size=cap * sz) (hroom:n+ys.length<=cap):
 (Builtin.append_ #[t,tx] ty #[.slice (some ⟨b,0,none⟩) n cap,x]).run P w=.ok (.slice (some ⟨b,0,none⟩) (n+ys.length) cap) (w.setRow b (cells.toList.take (n * sz)++news++cells.toList.drop (n * sz+news.length)).toArray):=by
 obtain⟨dsc,hd1,hd2⟩:=hx;have hle:n * sz+0+news.length<=cells.size:=by
  rw [hs.size,hcap,Nat.add_zero,<- Nat.add_mul];exact Nat.mul_le_mul_right _ hroom
 have hst:=X4 (P:=P) b (n * sz) el fz news 0 cells w hb hfz hle hs.one;simp only [Nat.add_zero]at hst;have hni:(match dsc with |.int _=>true|_=>false)=false:=by
  cases dsc<;>first|rfl|exact absurd rfl (hd2 _)
 have hszr:(sizeOf e).run P w=.ok sz w:=by simp [sizeOf,hi,hsz]
 simp [Builtin.append_,run_underlying hu,run_underlying hd1,hszr,hni,hs.len,hroom,hs.cells w (Agree.refl w),cG,hst]
theorem qM {t tx ty e sz bts:Nat}(hu:P.underlying t=some (.slice e)){i:TypeInfo}(hi:∀ w,(typeInfo e).run P w=.ok i w)(hsz:i.size=sz)(hbt:i.bytes=bts){z:Value}(hz:∀ w,(zeroValue e).run P w=.ok z w)(hx:∃ dsc,P.underlying tx=some dsc/\(∀ k,dsc≠ .int k))
 {ao:Option Addr} {n cap:Nat} {olds:List Value} (hold:∀ w',Agree w w'->(Builtin.firstCells sz n (.slice ao n cap)).run P w'=.ok olds.toArray w') {ys:List (List V)} {x:Value} {news:List Value} (hs:Src P C w sz ys x news) (hroom:¬ n+ys.length<=cap)
 (hb:(n+ys.length) * bts<=140737488355328) (hb2:n+ys.length<=9223372036854775807):
 (Builtin.append_ #[t,tx] ty #[.slice ao n cap,x]).run P w=.ok (.slice (some ⟨w.heap.size,0,none⟩) (n+ys.length) (grownCap w (n+ys.length) cap e))
  (w.drew.alloc (.cells (olds.toArray++news.toArray++Builtin.zeroCells z.cells (grownCap w (n+ys.length) cap e-(n+ys.length))) e)):=by
 obtain⟨dsc,hd1,hd2⟩:=hx;have hni:(match dsc with |.int _=>true|_=>false)=false:=by
  cases dsc<;>first|rfl|exact absurd rfl (hd2 _)
 have hszr:∀ w,(sizeOf e).run P w=.ok sz w:=fun w=>by simp [sizeOf,hi,hsz]
 have h63':¬ (9223372036854775807<((n:Int)+(ys.length:Int))):=by omega
 have hfit:=growslice_fits (old:=cap) (need:=n+ys.length) (bytes:=bts) (by omega) hb;have h48':¬ (281474976710656<Builtin.nextslicecap (n+ys.length) cap * i.bytes):=by rw [hbt];omega
 have hf:=hs.cells w.drew (bO w);have hfo:=hold w.drew (bO w);simp [Builtin.append_,run_underlying hu,run_underlying hd1,hszr,hi,hz,hni,hs.len,hroom,h63',h48',Question.forced,hf,hfo,newRow,grownCap];congr 2;apply Array.ext';simp
def notIntT (T:List TI)(t:Nat):Bool:=match T[t]? with
 |some ⟨.slice _,_,_,_,_⟩=>true
 |some ⟨.string,_,_,_,_⟩=>true
 |_=>false
theorem notIntT_spec {t:Nat}(hT:TabOK P T)(h:notIntT T t=true):∃ dsc,P.underlying t=some dsc/\∀ k,dsc≠ .int k:=by
 unfold notIntT at h;split at h
 .rename_i e _ _ _ _ ht;exact ⟨_,hT.slice ht rfl,fun k hk=>by cases hk⟩
 .rename_i ht;exact ⟨_,hT.string ht rfl,fun k hk=>by cases hk⟩
 .simp at h
theorem ai9 {t tx ty e sz:Nat}(hu:P.underlying t=some (.slice e)){i:TypeInfo}(hi:∀ w,(typeInfo e).run P w=.ok i w)(hsz:i.size=sz)(hx:∃ dsc,P.underlying tx=some dsc/\(∀ k,dsc≠ .int k))
 {x:Value} {news:List Value} (hs:Src P C w sz [] x news):(Builtin.append_ #[t,tx] ty #[.slice none 0 0,x]).run P w=.ok (.slice none 0 0) w:=by
 obtain⟨dsc,hd1,hd2⟩:=hx;have hni:(match dsc with |.int _=>true|_=>false)=false:=by
  cases dsc<;>first|rfl|exact absurd rfl (hd2 _)
 have hszr:∀ w,(sizeOf e).run P w=.ok sz w:=fun w=>by simp [sizeOf,hi,hsz]
 have hl:=hs.len w;have hc:=hs.cells w (Agree.refl w);simp only [List.length_nil]at hl hc;simp [Builtin.append_,run_underlying hu,run_underlying hd1,hszr,hni,hl,hc]
theorem hst_dup {h:List (Nat×HB)}(hs:HSt C w h){u:Nat}{hb:HB}(hu:hget h u=some hb):HSt C w ((u,hb)::h):=by
 have hg:∀ x,hget ((u,hb)::h) x=hget h x:=fun x=>by
  simp only [hget,Bool.cond_eq_ite];split
  .rename_i he;rw [Nat.beq_eq]at he;subst he;exact hu.symm
  .rfl
 exact⟨fun x hx=>hs.dom x (by rwa [hg]at hx),fun x q hx=>hs.ent x q (by rwa [hg]at hx),hs.lt,hs.inj,hs.own,hs.regs,hs.lvs,hs.rdis,hs.zero,hs.two,⟨fun x q L hx=>hs.sub.dp x q L (by rwa [hg]at hx),hs.sub.s0,hs.sub.nd,hs.sub.lt,hs.sub.root,hs.sub.dis,hs.sub.reg⟩,hs.tab⟩
theorem ad3 {h:List (Nat×HB)}(H:HSt C w h){u b:Nat}{L:Loc}{cells:Array Value}{el:TypeId}{fz:Nat×Nat}{rows ys:List (List V)}{news rest:List Value}{sz:Nat}(hu:hget h u=some ⟨sz,rows⟩)(hL:C.loc u=some L)(hbb:L.blk=some b)(hnz:L.sz≠0)(hsz:L.sz=sz)
 (hheap:w.heap[b]? =some (.cells cells el fz)) (htl:(cells.toList.take (rows.length * sz)).length=rows.length * sz) (hfl:flatR ys=true) (hys:∀ row∈ys,row.length=sz) (hnl:news.length=ys.length * sz):
 ∀ w',(∀ c∈C.sub u,w'.heap[c]? =w.heap[c]?)->TopR w' (cells.toList.take (rows.length * sz)++news++rest) L.sz (rows++ys) (C.sub u):=fun w' hk=>by
 subst hsz;obtain ⟨cs,el',fz',g1,g2⟩:=ah6 hbb hnz (H.sub.dp u _ L hu hL);rw [hheap]at g1;simp only [Option.some.injEq,Obj.cells.injEq]at g1;obtain ⟨rfl,rfl,rfl⟩:=g1;have k1:=(g2.mono hk).pre (cs':=cells.toList.take (rows.length * L.sz)) (by rw [List.take_take,Nat.min_self]);have k2:=k1.append htl (mY (w:=w') (cs:=news++rest) (rows:=ys) (sz:=L.sz) hfl hys (by rw [List.length_append];omega));rw [List.append_nil]at k2;rw [List.append_assoc];exact k2
theorem ad2 {ops:Array Oper}{d:Option Nat}{ty:Nat}{pos:String}{af:Array Edge}{gu:Option (Nat×Bool)}{r:List Oper}{K:St->Prop}{s1:St}
 {t tx e u n:Nat} {kd:TK} {sz bts:Nat} {z0:List V} {ag:Bool} {x y:Operand} {rows ys:List (List V)} (hT:TabOK P T) (ht:elemI T t=some (e,⟨kd,sz,bts,z0,ag⟩)) (htx:notIntT T tx=true) (hz:z0.length=sz/\sz≠0)
 (hu:hget s.heap u=some ⟨sz,rows⟩) (hn:n=rows.length)
 (hb:(n+ys.length) * bts<=140737488355328/\n+ys.length<=9223372036854775807)
 (hp:(s.wr u ⟨sz,rows++ys⟩).put d (.hsl u 0 (n+ys.length))=some s1) (h:AOps P ops r s1 K)
 {C:Ctx} {w:World} {a:Act} (hs:StRep C w a s) (hv:Rep C w (a.eval x) (.hsl u 0 n)) (hS:∃ news,Src P C w sz ys (a.eval y) news):
 ∃ v w' C' s',(execOp a.eval ⟨d,.call ⟨.builtin .append,⟨[x,y]⟩,⟨[t,tx]⟩⟩,ty,pos,af,gu⟩).run P w=.ok (.value v) w'/\StRep C' w' (a.put d v) s'/\Fr C C' w w'/\AOps P ops r s' K:=by
 subst hn;obtain ⟨news,hS⟩:=hS;obtain ⟨L,h1,h2,h3,h4,h5⟩:=aO hs.heap hv hu (by show 0+rows.length=rows.length;omega);have h2':L.sz=sz:=h2;have h3':L.n=rows.length:=h3;obtain ⟨hut,hte⟩:=gR hT ht;obtain ⟨j,hj,hjs,hjb⟩:=hT.tinfo hte;obtain ⟨z,hz1,hz2⟩:=hT.zero hte (by intro e;dsimp only at e;rw [e]at hz;simp at hz;omega);dsimp only at hjs hjb hz2;have hzl:z.cells.size=sz:=by rw [<- hz.1,<- hz2];simp
 have hni:=notIntT_spec hT htx;have hux:u<C.nx:=hs.heap.lt u L h1;have hex:(execOp a.eval ⟨d,.call ⟨.builtin .append,⟨[x,y]⟩,⟨[t,tx]⟩⟩,ty,pos,af,gu⟩).run P w=((Builtin.append_ #[t,tx] ty #[a.eval x,a.eval y]).run P w).andThen fun v w=>.ok (.value v) w:=by
  simp [execOp,resolve,invoke,builtin]
 rw [hex];have hwr:s.wr u ⟨sz,rows++ys⟩={ s with heap:=(u,⟨sz,rows++ys⟩)::s.heap }:=by cases s;rfl
 unfold HSL at h5;cases hbk:L.blk with
 |some b=>
  rw [hbk]at h5;simp only [Nat.zero_mul,Nat.sub_zero]at h5;obtain ⟨hnz,h5⟩:=h5;obtain ⟨cells,el,fz,g1,g2,g3,g4,g5⟩:=fQ hbk hnz h4;have hin:=dD g1 g5;rw [h2']at hin g2;have htk:=rowsIn_take hin;have g3':rows.length<=L.cap:=g3;have hmul:=Nat.mul_le_mul_right sz g3';have htl:(cells.toList.take (rows.length * sz)).length=rows.length * sz:=by
   have hcl:cells.toList.length=L.cap * sz:=g2;rw [List.length_take,hcl];exact Nat.min_eq_left hmul
  by_cases hroom:rows.length+ys.length<=L.cap
  .have hrun:=ai8 (tx:=tx) (ty:=ty) hut hj hjs hni hS g1 g4 g2 hroom;rw [<- h5]at hrun;rw [hrun];have hle:rows.length * sz+news.length<=cells.size:=by rw [hS.size,g2,<- Nat.add_mul];exact Nat.mul_le_mul_right _ hroom
   have hnew:=oF (rest:=cells.toList.drop (rows.length * sz+news.length)) htk htl hS.rows;have hsize:(cells.toList.take (rows.length * sz)++news++cells.toList.drop (rows.length * sz+news.length)).toArray.size=cells.size:=by
    simp only [List.size_toArray,List.length_append,htl,List.length_drop,Array.length_toList];omega
   have hw:=HSt.write hs.heap hnz (w':=w.setRow b (cells.toList.take (rows.length * sz)++news++cells.toList.drop (rows.length * sz+news.length)).toArray) (rows:=rows++ys) h1 hbk rfl rfl (oQ w b _) (fun c hc=>kQ w b c _ hc) (setRow_heap w b cells _ el fz g1)
    (by rw [hsize,h2'];exact g2) (by rw [hsize];exact g4) (by simpa using hroom) (by rw [h3',List.length_append];omega) (fun C' w' E=>by rw [h2'];exact hnew.mono E) (C.sub u) (List.Sublist.refl _) (ad3 hs.heap hu h1 hbk hnz h2' g1 htl hS.flat (eT hS.rows) hS.size _)
   obtain⟨C1,hn1,hl1,hloc1,w1,w2,w3⟩:=hw;rw [h2']at w1;refine ⟨_,_,C1,s1,rfl,W2 (s:=s.wr u ⟨sz,rows++ys⟩) (by rw [hwr];exact⟨hs.defers,hs.size,by rw [hn1];exact hs.nx,fun i=>(hs.env i).mono w2,w1,by rw [hl1];exact hs.lv⟩) (.hsl (by rw [hn1];exact hux) fun L' hL'=>?_) hp,w3,h⟩;rw [hloc1]at hL';simp at hL';subst hL';refine ⟨by simp,fun _=>?_⟩;unfold HSL;simp [hbk,hnz]
  .have hold:∀ w',Agree w w'->(Builtin.firstCells sz rows.length (.slice (some ⟨b,0,none⟩) rows.length L.cap)).run P w'=.ok (cells.toList.take (rows.length * sz)).toArray w':=fun w' hA=>by
    refine run_firstCells_some w' sz rows.length ⟨b,0,none⟩ rows.length L.cap _ htl fun k v hk=>?_;rw [cG];refine hA.cell ?_;rw [List.getElem?_take]at hk;split at hk
    .simpa [World.cell?,g1]using hk
    .simp at hk
   have hrun:=qM (tx:=tx) (ty:=ty) hut hj hjs hjb hz1 hni hold hS hroom hb.1 hb.2;rw [<- h5]at hrun;rw [hrun];have hge:=grownCap_ge w (rows.length+ys.length) L.cap e;generalize grownCap w (rows.length+ys.length) L.cap e=G at hge;have hs':=lQ hs (bO w);have hnew:=(oF (rest:=(Builtin.zeroCells z.cells (G-(rows.length+ys.length))).toList) htk htl hS.rows).mono (vC hs.heap (bO w));have e1:(cells.toList.take (rows.length * sz)).toArray++news.toArray++Builtin.zeroCells z.cells (G-(rows.length+ys.length))=⟨cells.toList.take (rows.length * sz)++news++(Builtin.zeroCells z.cells (G-(rows.length+ys.length))).toList⟩:=by
    apply Array.ext';simp
   have hsize:((cells.toList.take (rows.length * sz)).toArray++news.toArray++Builtin.zeroCells z.cells (G-(rows.length+ys.length))).size=G * L.sz:=by
    have h8:(Builtin.zeroCells z.cells (G-(rows.length+ys.length))).size=(G-(rows.length+ys.length)) * sz:=by simp [Builtin.zeroCells,hzl]
    rw [Array.size_append,Array.size_append,h8,h2'];simp only [List.size_toArray,htl,hS.size];have h9:G * sz=rows.length * sz+ys.length * sz+(G-(rows.length+ys.length)) * sz:=by rw [<- Nat.add_mul,<- Nat.add_mul];congr 1;omega
    omega
   obtain⟨w1,w3,w2⟩:=HSt.regrow hs'.heap (el:=e) (cap:=G) (rows:=rows++ys) hnz h1 (by rw [h3'];simp;omega) hsize (by simpa using hge) (by rw [e1,h2'];exact hnew) (by rw [e1];exact fun hk=>ad3 hs'.heap hu h1 hbk hnz h2' (by rw [(bO w).2 _ (hs.heap.rootlt h1 hbk)];exact g1) htl hS.flat (eT hS.rows) hS.size _ hk);rw [h2']at w1 w2 w3;refine ⟨_,_,C.set u ⟨some w.drew.heap.size,sz,(rows++ys).length,G⟩ C.nx,s1,rfl,W2 (s:=s.wr u ⟨sz,rows++ys⟩) (by rw [hwr];exact⟨hs.defers,hs.size,hs.nx,fun i=>(hs'.env i).mono w2,w1,hs.lv⟩) (.hsl hux fun L' hL'=>?_) hp,(rS (bO w)).trans w3,h⟩;simp [Ctx.set]at hL';subst hL';refine ⟨by simp,fun _=>?_⟩;simp [HSL,hz.2]
 |none=>
  rw [hbk]at h5;simp only at h5;unfold Blk at h4;rw [hbk]at h4;obtain ⟨hr0,hcap0⟩:=h4;have hr0':rows=[]:=hr0;subst hr0';by_cases hy0:ys.length=0
  .have hy0':ys=[]:=List.eq_nil_of_length_eq_zero hy0;subst hy0';have hrun:=ai9 (tx:=tx) (ty:=ty) hut hj hjs hni hS;rw [<- h5]at hrun;rw [hrun];refine ⟨_,_,C,s1,rfl,W2 (s:=s.wr u ⟨sz,[]++[]⟩) (by rw [hwr];exact⟨hs.defers,hs.size,hs.nx,hs.env,hst_dup hs.heap hu,hs.lv⟩) hv hp,Fr.refl _ _,h⟩
  .have hold:∀ w',Agree w w'->(Builtin.firstCells sz 0 (.slice none 0 0)).run P w'=.ok ([]:List Value).toArray w':=fun w' _=>by simp [Builtin.firstCells]
   have hrun:=qM (tx:=tx) (ty:=ty) hut hj hjs hjb hz1 hni hold hS (by omega) (by simpa using hb.1) (by simpa using hb.2);rw [<- h5]at hrun;rw [hrun];have hge:=grownCap_ge w (0+ys.length) 0 e;generalize grownCap w (0+ys.length) 0 e=G at hge;have hs':=lQ hs (bO w);have hnew:=(oF (cs:=[]) (rows:=[]) (rest:=(Builtin.zeroCells z.cells (G-(0+ys.length))).toList) ⟨fun _=>[],fun i row hi=>by simp at hi⟩ (by simp) hS.rows).mono (vC hs.heap (bO w));have e1:([]:List Value).toArray++news.toArray++Builtin.zeroCells z.cells (G-(0+ys.length))=⟨[]++news++(Builtin.zeroCells z.cells (G-(0+ys.length))).toList⟩:=by
    apply Array.ext';simp
   have hsize:(([]:List Value).toArray++news.toArray++Builtin.zeroCells z.cells (G-(0+ys.length))).size=G * L.sz:=by
    have h8:(Builtin.zeroCells z.cells (G-(0+ys.length))).size=(G-(0+ys.length)) * sz:=by simp [Builtin.zeroCells,hzl]
    rw [Array.size_append,Array.size_append,h8,h2'];simp only [List.size_toArray,List.length_nil,hS.size];have h9:G * sz=ys.length * sz+(G-(0+ys.length)) * sz:=by rw [<- Nat.add_mul];congr 1;omega
    omega
   obtain⟨w1,w3,w2⟩:=HSt.regrow hs'.heap (el:=e) (cap:=G) (rows:=[]++ys) (by rw [h2'];exact hz.2) h1 (by rw [h3'];simp;omega) hsize (by simpa using hge) (by rw [e1,h2'];exact hnew) (fun _=>by
    have hs0:C.sub u=[]:=by have:=hs.heap.sub.dp u _ L hu h1;unfold Deep at this;rw [hbk]at this;exact this
    rw [hs0,e1,h2'];exact mY (by simpa using hS.flat) (by simpa using eT hS.rows) (by have:=hS.size;simp;omega))
   rw [h2']at w1 w2 w3;refine ⟨_,_,C.set u ⟨some w.drew.heap.size,sz,([]++ys).length,G⟩ C.nx,s1,rfl,W2 (s:=s.wr u ⟨sz,[]++ys⟩) (by rw [hwr];exact⟨hs.defers,hs.size,hs.nx,fun i=>(hs'.env i).mono w2,w1,hs.lv⟩) (.hsl hux fun L' hL'=>?_) hp,(rS (bO w)).trans w3,h⟩;simp [Ctx.set]at hL';subst hL';refine ⟨by simp,fun _=>?_⟩;simp [HSL,hz.2]
theorem s_append {ops:Array Oper}{d:Option Nat}{ty:Nat}{pos:String}{af:Array Edge}{gu:Option (Nat×Bool)}{r:List Oper}{K:St->Prop}{s1:St}
 {t tx e u n:Nat} {kd:TK} {sz bts:Nat} {z0:List V} {ag:Bool} {x y:Operand} {rows ys:List (List V)} (hT:TabOK P T) (hg:gd ops.toList s gu=some true) (ht:elemI T t=some (e,⟨kd,sz,bts,z0,ag⟩)) (htx:notIntT T tx=true) (hz:z0.length=sz/\sz≠0)
 (hx:ev s x=.hsl u 0 n) (hu:hget s.heap u=some ⟨sz,rows⟩) (hn:n=rows.length) (hsrc:∀ C w a,StRep C w a s->∃ news,Src P C w sz ys (a.eval y) news)
 (hb:(n+ys.length) * bts<=140737488355328/\n+ys.length<=9223372036854775807)
 (hp:(s.wr u ⟨sz,rows++ys⟩).put d (.hsl u 0 (n+ys.length))=some s1) (h:AOps P ops r s1 K):
 AOps P ops (⟨d,.call ⟨.builtin .append,⟨[x,y]⟩,⟨[t,tx]⟩⟩,ty,pos,af,gu⟩::r) s K:=
 gQ hg fun C w a hs=>ad2 hT ht htx hz hu hn hb hp h hs (by have:=hs.ev x;rwa [hx]at this) (hsrc C w a hs)
end
end Go.Abs

namespace Go.Abs
end Go.Abs

namespace Go.Abs
inductive PD where
 |mk (kind number:Int) (text:LB) (items:List PD)
namespace PD
def kind:PD->Int|.mk k _ _ _=>k
def number:PD->Int|.mk _ n _ _=>n
def text:PD->LB|.mk _ _ t _=>t
def items:PD->List PD|.mk _ _ _ is=>is
instance:Inhabited PD:=⟨.mk 0 0 [] []⟩
mutual
def enc (l:Nat):PD->List V
 |.mk k n t is=>[.int .i64 k,.int .i64 n,.str t,.psl l 4 (encs l is)]
def encs (l:Nat):List PD->List (List V)
 | []=>[]
 |d::r=>enc l d::encs l r
end
theorem rW (l:Nat):∀ ds:List PD,encs l ds=ds.map (enc l)
 | []=>rfl
 |d::r=>by simp [encs,rW l r]
def encX (l:Nat)(d:PD):List V:=[.int .i64 d.kind,.int .i64 d.number,.str d.text,.psl l 4 (d.items.map (enc l))]
theorem enc_eq (l:Nat)(d:PD):d.enc l=d.encX l:=by cases d;simp [enc,encX,rW,kind,number,text,items]
mutual
theorem ai5 (f:Nat->Nat)(l:Nat):∀ d:PD,V.rlL f (enc l d)=enc (f l) d
 |.mk k n t is=>by simp [enc,V.rlL,V.rl,sO f l is]
theorem sO (f:Nat->Nat)(l:Nat):∀ ds:List PD,V.rlR f (encs l ds)=encs (f l) ds
 | []=>rfl
 |d::r=>by simp [encs,V.rlR,ai5 f l d,sO f l r]
end
theorem rlL_encX (f:Nat->Nat)(l:Nat)(d:PD):V.rlL f (d.encX l)=d.encX (f l):=by rw [<- enc_eq,ai5,enc_eq]
theorem rl_items (f:Nat->Nat){l l':Nat}(ds:List PD)(h:f l=l'):V.rl f (.psl l 4 (ds.map (enc l)))=.psl l' 4 (ds.map (enc l')):=by
 subst h;simp only [V.rl,<- rW,sO]
mutual
def cnt:PD->Nat
 |.mk _ _ _ is=>cnts is
def cnts:List PD->Nat
 | []=>0
 |d::r=>1+cnt d+cnts r
end
theorem cnts_mem:∀{ds:List PD} {x:PD},x∈ds->x.cnt+1<=cnts ds
 |d::r,x,h=>by
  unfold cnts;rcases List.mem_cons.1 h with rfl|h
  .omega
  .have:=cnts_mem h;omega
theorem cnts_len:∀(ds:List PD),ds.length<=cnts ds
 | []=>by simp
 |d::r=>by have:=cnts_len r;unfold cnts;simp;omega
theorem cnt_eq (d:PD):d.cnt=cnts d.items:=by cases d;rfl
theorem ar4 {d x:PD}(h:x∈d.items):x.cnt<d.cnt:=by have:=cnts_mem h;rw [cnt_eq d];omega
mutual
def wf:PD->Prop
 |.mk k n t is=>(IntKind.i64.min<=k/\k<=IntKind.i64.max)/\(IntKind.i64.min<=n/\n<=IntKind.i64.max)/\t.length<=9223372036854775807/\is.length<=9223372036854775807/\wfs is
def wfs:List PD->Prop
 | []=>True
 |d::r=>wf d/\wfs r
end
theorem wfs_mem:∀{ds:List PD} {x:PD},wfs ds->x∈ds->x.wf
 |d::r,x,h,hx=>by
  unfold wfs at h;rcases List.mem_cons.1 hx with rfl|hx
  .exact h.1
  .exact wfs_mem h.2 hx
theorem wfs_of:∀{ds:List PD},(∀ x∈ds,x.wf)->wfs ds
 | [],_=>trivial
 |d::r,h=>⟨h d (by simp),wfs_of fun x hx=>h x (by simp [hx])⟩
theorem wf_eq (d:PD):d.wf↔(IntKind.i64.min<=d.kind/\d.kind<=IntKind.i64.max)/\(IntKind.i64.min<=d.number/\d.number<=IntKind.i64.max)/\d.text.length<=9223372036854775807/\d.items.length<=9223372036854775807/\wfs d.items:=by cases d;exact Iff.rfl
mutual
def short:PD->Prop
 |.mk _ _ t is=>t.length<=1048576/\shorts is
def shorts:List PD->Prop
 | []=>True
 |d::r=>short d/\shorts r
end
theorem aq4:∀{ds:List PD} {x:PD},shorts ds->x∈ds->x.short
 |d::r,x,h,hx=>by
  unfold shorts at h;rcases List.mem_cons.1 hx with rfl|hx
  .exact h.1
  .exact aq4 h.2 hx
theorem ax7 (d:PD):d.short↔d.text.length<=1048576/\shorts d.items:=by cases d;exact Iff.rfl
def small (d:PD):Prop:=d.short/\d.cnt<=1048576
theorem small_item {d x:PD}(h:d.small)(hx:x∈d.items):x.small:=
 ⟨aq4 ((ax7 d).1 h.1).2 hx,by have:=ar4 hx;have:=h.2;omega⟩
mutual
def eqb:PD->PD->Bool
 |.mk k n t is,.mk k' n' t' is'=>decide (k=k')&&(decide (n=n')&&(decide (t=t')&&eqbs is is'))
def eqbs:List PD->List PD->Bool
 | [],[]=>true
 |a::r,b::s=>eqb a b&&eqbs r s
 | [],_::_=>false
 |_::_,[]=>false
end
theorem eqb_eq (a b:PD):eqb a b=(decide (a.kind=b.kind)&&(decide (a.number=b.number)&&(decide (a.text=b.text)&&eqbs a.items b.items))):=by cases a;cases b;rfl
theorem as0:∀{a b:List PD},eqbs a b=true->a.length=b.length
 | [],[],_=>rfl
 |x::r,y::s,h=>by
  simp only [eqbs,Bool.and_eq_true]at h;simp [as0 h.2]
 | [],_::_,h=>by simp [eqbs]at h
 |_::_,[],h=>by simp [eqbs]at h
theorem ind {A:PD->Prop}{B:List PD->Prop}(hB:∀ ds,(∀ x∈ds,A x)->B ds)(hA:∀ d,B d.items->A d):(∀ d,A d)/\∀ ds,B ds:=by
 have key:∀ N,(∀ d:PD,d.cnt<N->A d)/\∀ ds:List PD,cnts ds<=N->B ds:=by
  intro N;induction N with
  |zero=>exact⟨fun d h=>by omega,fun ds h=>hB ds fun x hx=>by have:=cnts_mem hx;omega⟩
  |succ N ih=>
   have hA':∀ d:PD,d.cnt<N+1->A d:=fun d h=>hA d (ih.2 _ (by rw [<- cnt_eq];omega));exact ⟨hA',fun ds h=>hB ds fun x hx=>hA' x (by have:=cnts_mem hx;omega)⟩
 exact⟨fun d=>(key (d.cnt+1)).1 d (by omega),fun ds=>(key (cnts ds)).2 ds (Nat.le_refl _)⟩
end PD
end Go.Abs

namespace Go.Abs
namespace PD
def nodeOK (k n:Int)(t:LB)(m:Int):Bool:=
 if k=0 then decide (n=0)&&decide (t=[])
 else if k=1 then decide (n=0)&&(decide (m=0)&&isSymbol t)
 else if k=2 then inside n (-999999999) 999999999&&(decide (t=[])&&decide (m=0))
 else if k=3 then inside n 0 1&&(decide (t=[])&&decide (m=0))
 else if k=4 then decide (n=0)&&(decide (m=0)&&isText t)
 else false
mutual
def okAll:PD->Bool
 |.mk k n t is=>nodeOK k n t is.length&&okAlls is
def okAlls:List PD->Bool
 | []=>true
 |d::r=>okAll d&&okAlls r
end
mutual
def depth:PD->Int
 |.mk _ _ _ is=>depths is+1
def depths:List PD->Int
 | []=>0
 |d::r=>max (depth d) (depths r)
end
mutual
def meas:PD->Int->Int->Bool×Int
 |.mk k n t is,deep,nodes=>if 20<deep\/600<nodes+1\/nodeOK k n t is.length=false then(false,nodes+1)else measL is (deep+1) (nodes+1)
def measL:List PD->Int->Int->Bool×Int
 | [],_,nodes=>(true,nodes)
 |d::r,deep,nodes=>if(meas d deep nodes).1=true then measL r deep (meas d deep nodes).2 else(false,(meas d deep nodes).2)
end
mutual
def few:PD->Int->Int
 |.mk _ _ _ is,left=>fews is (left-1)
def fews:List PD->Int->Int
 | [],left=>left
 |d::r,left=>if 0<=left then fews r (few d left)else left
end
def valid (d:PD):Bool:=decide ((d.cnt:Int)+1<=600)&&(decide (d.depth<=20)&&d.okAll)
theorem J8:∀ ds:List PD,0<=depths ds
 | []=>by simp [depths]
 |d::r=>by have:=J8 r;unfold depths;omega
theorem qF:(∀ (d:PD) (deep nodes:Int),((meas d deep nodes).1=true↔deep+d.depth<=21/\nodes+1+d.cnt<=600/\d.okAll=true)/\((meas d deep nodes).1=true->(meas d deep nodes).2=nodes+1+d.cnt))/\
 (∀ (ds:List PD) (deep nodes:Int),deep<=21->nodes<=600->((measL ds deep nodes).1=true↔deep+depths ds<=21/\nodes+cnts ds<=600/\okAlls ds=true)/\((measL ds deep nodes).1=true->(measL ds deep nodes).2=nodes+cnts ds)):=by
 refine ind (fun ds ih=>?_) (fun d ih=>?_)
 .induction ds with
  |nil=>intro deep nodes h1 h2;simp [measL,depths,cnts,okAlls];omega
  |cons x r ihr=>
   intro deep nodes h1 h2;have hx:=ih x (by simp) deep nodes;have hr:=ihr (fun y hy=>ih y (by simp [hy])) deep;have hd:=J8 r;unfold measL depths cnts okAlls;by_cases hb:(meas x deep nodes).1=true
   .rw [if_pos hb];have h3:=hx.1.1 hb;have h4:=hx.2 hb;have h5:=hr (meas x deep nodes).2 h1 (by omega);rw [h5.1,h3.2.2,h4,Bool.true_and];refine ⟨⟨fun h=>⟨by omega,by omega,h.2.2⟩,fun h=>⟨by omega,by omega,h.2.2⟩⟩,fun h=>?_⟩;rw [<- h4,h5.2 (h5.1.2 (by rw [h4];exact h)),h4];omega
   .rw [if_neg hb];refine ⟨⟨fun h=>by simp at h,fun h=>?_⟩,fun h=>by simp at h⟩;refine absurd (hx.1.2 ⟨by omega,by omega,?_⟩) hb;have:=h.2.2;simp only [Bool.and_eq_true]at this;exact this.1
 .intro deep nodes;obtain ⟨k,n,t,is⟩:=d;have ih':∀(deep nodes:Int),deep<=21->nodes<=600->((measL is deep nodes).1=true↔deep+depths is<=21/\nodes+cnts is<=600/\okAlls is=true)/\((measL is deep nodes).1=true->(measL is deep nodes).2=nodes+cnts is):=ih;have hd:=J8 is;unfold meas depth cnt okAll;by_cases hc:20<deep\/600<nodes+1\/nodeOK k n t is.length=false
  .rw [if_pos hc];refine ⟨⟨fun h=>by simp at h,fun h=>?_⟩,fun h=>by simp at h⟩;have:=h.2.2;simp only [Bool.and_eq_true]at this;rcases hc with hc|hc|hc
   .omega
   .omega
   .rw [this.1]at hc;cases hc
  .rw [if_neg hc];have h0:nodeOK k n t is.length=true:=by cases hq:nodeOK k n t is.length<;>simp_all
   have h5:=ih' (deep+1) (nodes+1) (by omega) (by omega);rw [h5.1,h0,Bool.true_and];refine ⟨⟨fun h=>⟨by omega,by omega,h.2.2⟩,fun h=>⟨by omega,by omega,h.2.2⟩⟩,fun h=>?_⟩;rw [h5.2 (h5.1.2 h)]
theorem vL:(∀ (d:PD) (left:Int),0<=left->(-1<=few d left/\few d left<=left)/\(0<=few d left↔(d.cnt:Int)+1<=left)/\(0<=few d left->few d left=left-(d.cnt+1)))/\
 (∀ (ds:List PD) (left:Int), -1<=left->(-1<=fews ds left/\fews ds left<=left)/\(0<=fews ds left↔(cnts ds:Int)<=left)/\(0<=fews ds left->fews ds left=left-cnts ds)):=by
 refine ind (fun ds ih=>?_) (fun d ih=>?_)
 .induction ds with
  |nil=>intro left h;simp [fews,cnts];omega
  |cons x r ihr=>
   intro left h;unfold fews cnts;by_cases h0:0<=left
   .rw [if_pos h0];have hx:=ih x (by simp) left h0;have hr:=ihr (fun y hy=>ih y (by simp [hy])) (few x left) (by omega);refine ⟨by omega,⟨fun h=>?_,fun h=>?_⟩,fun h=>?_⟩
    .have h1:=hr.2.1.1 h;have h2:=hx.2.2 (by omega);omega
    .have h2:=hx.2.2 (hx.2.1.2 (by omega));exact hr.2.1.2 (by omega)
    .have h1:=hr.2.1.1 h;have h2:=hx.2.2 (by omega);have h3:=hr.2.2 h;omega
   .rw [if_neg h0];refine ⟨by omega,⟨fun h=>by omega,fun h=>by omega⟩,fun h=>by omega⟩
 .intro left h0;obtain ⟨k,n,t,is⟩:=d;have h:=ih (left-1) (by omega);have h':(-1<=fews is (left-1)/\fews is (left-1)<=left-1)/\(0<=fews is (left-1)↔(cnts is:Int)<=left-1)/\(0<=fews is (left-1)->fews is (left-1)=left-1-cnts is):=h;unfold few cnt;refine ⟨by omega,by rw [h'.2.1];omega,fun h=>by rw [h'.2.2 h];omega⟩
theorem meas_valid (d:PD):(meas d 1 0).1=d.valid:=by
 have h:=(qF.1 d 1 0).1;generalize meas d 1 0=q at h;have e:d.valid=true↔((d.cnt:Int)+1<=600/\d.depth<=20/\d.okAll=true):=by
  unfold valid;rw [Bool.and_eq_true,Bool.and_eq_true,decide_eq_true_iff,decide_eq_true_iff]
 rw [Bool.eq_iff_iff,h,e];refine ⟨fun h=>⟨by omega,by omega,h.2.2⟩,fun h=>⟨by omega,by omega,h.2.2⟩⟩
theorem few_valid (d:PD):(decide (0<=few d 600)&&(decide (d.depth<=20)&&d.okAll))=d.valid:=by
 have h:=(vL.1 d 600 (by omega)).2.1;have e:decide (0<=few d 600)=decide ((d.cnt:Int)+1<=600):=decide_eq_decide.2 h;unfold valid;rw [e]
theorem meas_eq (d:PD)(deep nodes:Int):meas d deep nodes=if 20<deep\/600<nodes+1\/nodeOK d.kind d.number d.text d.items.length=false then(false,nodes+1)else measL d.items (deep+1) (nodes+1):=by cases d;rfl
theorem few_eq (d:PD)(left:Int):few d left=fews d.items (left-1):=by cases d;rfl
theorem vI (d:PD):d.depth=depths d.items+1:=by cases d;rfl
theorem okAll_eq (d:PD):d.okAll=(nodeOK d.kind d.number d.text d.items.length&&okAlls d.items):=by cases d;rfl
theorem vG:(∀ d:PD,d.depth<=d.cnt+1/\1<=d.depth)/\∀ ds:List PD,depths ds<=cnts ds:=by
 refine ind (fun ds ih=>?_) (fun d ih=>?_)
 .induction ds with
  |nil=>simp [depths,cnts]
  |cons x r ihr=>
   have h1:=ih x (by simp);have h2:=ihr fun y hy=>ih y (by simp [hy]);unfold depths cnts;omega
 .have:=J8 d.items;rw [vI,cnt_eq];omega
end PD
end Go.Abs

namespace Go.Abs
structure ej where
 op:Int
 a:Int
 d:PD
 deriving Inhabited
structure ek where
 params:Int
 slots:Int
 captures:Int
 instrs:List ej
 deriving Inhabited
structure eo where
 codes:List ek
 main:Int
 deriving Inhabited
def zeroDat:PD:=.mk 0 0 [] []
def ej.enc (l:Nat)(x:ej):List V:=[.int .i64 x.op,.int .i64 x.a,.int .i64 x.d.kind,.int .i64 x.d.number,.str x.d.text,.psl l 4 (x.d.items.map (PD.enc l))]
def ek.enc (l:Nat)(c:ek):List V:=[.int .i64 c.params,.int .i64 c.slots,.int .i64 c.captures,.psl l 6 (c.instrs.map (ej.enc l))]
def eo.enc (l:Nat)(m:eo):List V:=[.psl l 4 (m.codes.map (ek.enc l)),.int .i64 m.main]
theorem ej.rl (f:Nat->Nat)(l:Nat)(x:ej):V.rlL f (x.enc l)=x.enc (f l):=by
 have h:=PD.rl_items f (l:=l) x.d.items rfl;simp only [ej.enc,V.rlL,h];simp only [V.rl]
theorem rlR_mapl {α:Type}{f:Nat->Nat}{e:Nat->α->List V}{l:Nat}(he:∀ x,V.rlL f (e l x)=e (f l) x)(ds:List α):V.rlR f (ds.map (e l))=ds.map (e (f l)):=by
 induction ds with
 |nil=>rfl
 |cons x r ih=>simp only [List.map_cons,V.rlR,he,ih]
theorem uD {α:Type}{f:Nat->Nat}{e:Nat->α->List V}{l l' sz:Nat}(he:∀ x,V.rlL f (e l x)=e (f l) x)(ds:List α)(h:f l=l'):V.rl f (.psl l sz (ds.map (e l)))=.psl l' sz (ds.map (e l')):=by
 subst h;simp only [V.rl,rlR_mapl he]
theorem ek.rl (f:Nat->Nat)(l:Nat)(c:ek):V.rlL f (c.enc l)=c.enc (f l):=by
 have h:=uD (f:=f) (sz:=6) (ej.rl f l) c.instrs rfl;simp only [ek.enc,V.rlL,h];simp only [V.rl]
theorem eo.rl (f:Nat->Nat)(l:Nat)(m:eo):V.rlL f (m.enc l)=m.enc (f l):=by
 have h:=uD (f:=f) (sz:=4) (ek.rl f l) m.codes rfl;simp only [eo.enc,V.rlL,h];simp only [V.rl]
def instrOK (x:ej):Bool:=
 inside x.op 1 20&&(if x.op=1 then decide (x.a=0)&&x.d.valid else x.d.eqb zeroDat&&(inside x.a 0 4000&&(decide (x.a=0)||!(decide (x.op=14)||decide (x.op=17)))))
def effectOf (m:eo)(x:ej):Int×Int:=
 if x.op=1\/x.op=2\/x.op=3\/x.op=4\/x.op=5\/x.op=6 then(0,1)
 else if x.op=7\/x.op=8 then(1,1)
 else if x.op=11\/x.op=18\/x.op=19\/x.op=20 then((m.codes.getD x.a.toNat default).captures,1)
 else if x.op=12 then(x.a+1,1)
 else if x.op=13 then(x.a+1,0)
 else if x.op=14\/x.op=17\/x.op=16 then(1,0)
 else(0,0)
def fitsOf (s:Bool)(m:eo)(c:ek)(k:Int)(x:ej):Bool:=
 if x.op=2 then decide (x.a<14)
 else if x.op=3\/x.op=5\/x.op=7 then decide (x.a<c.slots)
 else if x.op=9 then decide (c.params<=x.a)&&decide (x.a<c.slots)
 else if x.op=10 then decide (x.a<c.params)
 else if x.op=4\/x.op=6\/x.op=8 then decide (x.a<c.captures)
 else if x.op=11 then decide (x.a<k)&&(!s||decide ((m.codes.getD x.a.toNat default).params<=8))
 else if x.op=18\/x.op=20 then decide (x.a<k)&&decide ((m.codes.getD x.a.toNat default).params=0)
 else if x.op=19 then decide (x.a<k)&&decide ((m.codes.getD x.a.toNat default).params=1)
 else if x.op=12\/x.op=13 then decide (x.a<=8)
 else true
def headOK (c:ek):Bool:=inside c.params 0 8&&(inside c.slots c.params 500&&(inside c.captures 0 500&&inside c.instrs.length 1 4000))
def codeOKs (s:Bool)(m:eo)(k:Nat):Bool:=
 headOK (m.codes.getD k default)&&(m.codes.getD k default).instrs.all fun x=>instrOK x&&fitsOf s m (m.codes.getD k default) k x
def codeOKc (s:Bool)(m:eo)(c:ek)(k:Int):Bool:=headOK c&&c.instrs.all fun x=>instrOK x&&fitsOf s m c k x
theorem codeOK_c (s:Bool)(m:eo)(k:Nat):codeOKs s m k=codeOKc s m (m.codes.getD k default) k:=rfl
def ek.small (c:ek):Prop:=c.instrs.length<=1048576/\∀ x∈c.instrs,x.d.small
def eo.small (m:eo):Prop:=m.codes.length<=1048576/\∀ c∈m.codes,c.small
theorem ar6 {s:Bool}{m:eo}{k:Nat}(h:codeOKs s m k=true):(m.codes.getD k default).params<=8:=by
 unfold codeOKs headOK inside at h;simp only [Bool.and_eq_true,decide_eq_true_eq]at h;omega
theorem wL {x:ej}(h:instrOK x=true):0<=x.a/\x.a<=4000/\1<=x.op/\x.op<=20:=by
 unfold instrOK inside at h;simp only [Bool.and_eq_true,decide_eq_true_eq]at h;obtain ⟨h1,h2⟩:=h;split at h2
 .simp only [Bool.and_eq_true,decide_eq_true_eq]at h2;omega
 .simp only [Bool.and_eq_true,decide_eq_true_eq]at h2;omega
theorem codeOK_same {m:eo}{k:Nat}(h:∀ i,i<k->codeOKs false m i=true):codeOKs true m k=codeOKs false m k:=by
 unfold codeOKs;congr 1;refine List.all_congr rfl fun x=>?_;by_cases hi:instrOK x=true
 .rw [hi,Bool.true_and,Bool.true_and];have ha:=wL hi;unfold fitsOf;by_cases h11:x.op=11
  .by_cases hk:x.a<k
   .have:=ar6 (h x.a.toNat (by omega));have e:decide ((m.codes.getD x.a.toNat default).params<=8)=true:=decide_eq_true this;rw [e];simp [h11,hk]
   .simp [h11,hk]
  .simp [h11]
 .have hi':instrOK x=false:=by simpa using hi
  rw [hi',Bool.false_and,Bool.false_and]
end Go.Abs

namespace Go.Abs
def at0 (out:LI)(k:Int):Int:=out.getD k.toNat 0
def putD (i len v k:Int)(out:LI):Option LI:=
 if k<=i\/len<=k\/(0<=at0 out k/\¬ at0 out k=v)then none else some (out.set k.toNat v)
def nextD (i len v:Int)(x:ej)(out:LI):Option LI:=
 if x.op=14\/x.op=13 then(if v=0 then some out else none)
 else if x.op=15 then putD i len v x.a out
 else if x.op=16 then(match putD i len v (i+1) out with |some o=>putD i len v x.a o|none=>none)
 else putD i len v (i+1) out
def stepD (m:eo)(len i:Int)(x:ej)(out:LI):Option LI:=
 if at0 out i<0 then some out
 else if at0 out i<(effectOf m x).1 then none
 else if 500<at0 out i-(effectOf m x).1+(effectOf m x).2 then none
 else nextD i len (at0 out i-(effectOf m x).1+(effectOf m x).2) x out
def runD (m:eo)(len:Int):Nat->List ej->LI->Option LI
 |_,[],out=>some out
 |i,x::r,out=>match stepD m len i x out with
  |some o=>runD m len (i+1) r o
  |none=>none
def depthsOf (m:eo)(k:Nat):Option LI:=
 runD m (m.codes.getD k default).instrs.length 0 (m.codes.getD k default).instrs ((List.replicate (m.codes.getD k default).instrs.length (-1)).set 0 0)
theorem ac5 {i len v k:Int}{out o:LI}(h:putD i len v k out=some o):o.length=out.length:=by
 unfold putD at h;split at h
 .cases h
 .simp only [Option.some.injEq]at h;subst h;simp
theorem nextD_len {i len v:Int}{x:ej}{out o:LI}(h:nextD i len v x out=some o):o.length=out.length:=by
 unfold nextD at h;split at h
 .split at h
  .simp only [Option.some.injEq]at h;subst h;rfl
  .cases h
 .split at h
  .exact ac5 h
  .split at h
   .split at h
    .rename_i o1 h1;rw [ac5 h,ac5 h1]
    .cases h
   .exact ac5 h
def small500 (out:LI):Prop:=∀ v∈out, -1<=v/\v<=500
theorem ak1 {out:LI}(h:small500 out)(k:Int): -1<=at0 out k/\at0 out k<=500:=by
 unfold at0;by_cases hk:k.toNat<out.length
 .rw [List.getD,List.getElem?_eq_getElem hk];exact h _ (List.getElem_mem hk)
 .rw [List.getD,List.getElem?_eq_none (by omega)];simp
theorem aa2 {out:LI}(h:small500 out){v:Int}(hv: -1<=v/\v<=500)(k:Nat):small500 (out.set k v):=fun x hx=>by
 rcases List.mem_or_eq_of_mem_set hx with hx|rfl
 .exact h x hx
 .exact hv
theorem sJ {i len v k:Int}{out o:LI}(hs:small500 out)(hv: -1<=v/\v<=500)(h:putD i len v k out=some o):small500 o:=by
 unfold putD at h;split at h
 .cases h
 .simp only [Option.some.injEq]at h;subst h;exact aa2 hs hv _
theorem ah4 {i len v:Int}{x:ej}{out o:LI}(hs:small500 out)(hv: -1<=v/\v<=500)(h:nextD i len v x out=some o):small500 o:=by
 unfold nextD at h;split at h
 .split at h
  .simp only [Option.some.injEq]at h;subst h;exact hs
  .cases h
 .split at h
  .exact sJ hs hv h
  .split at h
   .split at h
    .rename_i o1 h1;exact sJ (sJ hs hv h1) hv h
    .cases h
   .exact sJ hs hv h
theorem ap0 (m:eo)(x:ej):0<=(effectOf m x).2/\(effectOf m x).2<=1:=by
 unfold effectOf;repeat' split
 all_goals (dsimp only;omega)
def fillM (n i:Nat):LI:=List.replicate i (-1)++List.replicate (n-i) 0
theorem vM {n i:Nat}(h:i<=n):(fillM n i).length=n:=by simp [fillM];omega
theorem fillM_set {n i:Nat}(h:i<n):(fillM n i).set i (-1)=fillM n (i+1):=by
 unfold fillM;rw [List.set_append_right _ _ (by simp)];have e:n-i=(n-(i+1))+1:=by omega
 rw [List.length_replicate,Nat.sub_self,e,List.replicate_succ,List.set_cons_zero,List.replicate_succ',List.append_assoc];rfl
theorem fillM_all (n:Nat):fillM n n=List.replicate n (-1):=by simp [fillM]
end Go.Abs
