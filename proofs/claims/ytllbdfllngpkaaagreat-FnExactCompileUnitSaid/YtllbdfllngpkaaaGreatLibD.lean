
import Derived.Test.YtllbdfllngpkaaaGreatLibC
set_option linter.all false
namespace Go.Abs
def chk {α:Type}(p:Prop) [Decidable p] (x:Option α):Option α:=if p then x else none
theorem i8 {α:Type}{p:Prop} [Decidable p] {x:Option α}{r:α}(h:chk p x=some r):p/\x=some r:=by
 unfold chk at h;split at h
 .exact ⟨by assumption,h⟩
 .cases h
theorem p0 {α:Type}{p:Prop} [Decidable p] {x:Option α}(h:p):chk p x=x:=if_pos h
def bnd {α β:Type}(x:Option α)(f:α->Option β):Option β:=match x with |some a=>f a|none=>none
theorem c7 {α β:Type}{x:Option α}{f:α->Option β}{r:β}(h:bnd x f=some r):∃ a,x=some a/\f a=some r:=by
 unfold bnd at h;split at h
 .exact ⟨_,rfl,h⟩
 .cases h
@[simp] theorem g8 {α β : Type} {a : α} {f : α -> Option β} : bnd (some a) f = f a := rfl
def nth {α:Type}(l:List α)(i:Int):Option α:=if 0<=i then l[i.toNat]? else none
theorem cN {α:Type}{l:List α}{i:Int}{x:α}(h:nth l i=some x):0<=i/\i<l.length/\l[i.toNat]? =some x:=by
 unfold nth at h;split at h
 .rename_i h0;refine ⟨h0,?_,h⟩;rcases Nat.lt_or_ge i.toNat l.length with hl|hl
  .omega
  .simp [List.getElem?_eq_none hl]at h
 .cases h
theorem nth_nat {α:Type}(l:List α)(i:Nat):nth l (i:Int)=l[i]? :=by
 unfold nth;rw [if_pos (Int.natCast_nonneg i)];rfl
abbrev I64 (x:Int):Prop:= -9223372036854775808<=x/\x<=9223372036854775807
def itr {σ R:Type}(body:(σ->Option R)->σ->Option R):Nat->σ->Option R
 |0,_=>none
 |k+1,v=>body (itr body k) v
structure Cd (α:Type) where
 sz:Nat
 enc:Nat->α->List V
 row:Nat->α->List V
 eq:∀ l x,enc l x=row l x
 rl:∀(f:Nat->Nat) l x,V.rlL f (row l x)=row (f l) x
 len:∀ l x,(row l x).length=sz
 one:∀(s:St) l x,Nat.ble l 1=true->(row l x).all (oneV s)=true
section
variable {α:Type} (c:Cd α)
theorem Cd.map_eq (l:Nat)(xs:List α):xs.map (c.enc l)=xs.map (c.row l):=by congr 1;funext x;exact c.eq l x
theorem Cd.rlR (f:Nat->Nat)(l:Nat)(xs:List α):V.rlR f (xs.map (c.enc l))=xs.map (c.enc (f l)):=by
 induction xs with
 |nil=>rfl
 |cons x r ih=>simp only [List.map_cons,V.rlR,ih,c.eq,c.rl]
theorem Cd.rl_agg (f:Nat->Nat){l l':Nat}(x:α)(h:f l=l'):V.rl f (.agg (c.row l x))=.agg (c.row l' x):=by subst h;simp only [V.rl,c.rl]
theorem Cd.rl_psl (f:Nat->Nat){l l':Nat}(xs:List α){sz:Nat}(h:f l=l'):V.rl f (.psl l sz (xs.map (c.enc l)))=.psl l' sz (xs.map (c.enc l')):=by subst h;simp only [V.rl,c.rlR]
theorem au7 {n:Nat}{x:V}(h:x.rl cut2=x):Ok n x:=by
 cases x<;>first|exact h|(simp [V.rl]at h)
theorem ai7 {n:Nat}:∀{xs:List V},V.rlL cut2 xs=xs->RowOk n xs
 | [],_=>trivial
 |x::xs,h=>by
  simp only [V.rlL,List.cons.injEq]at h;exact ⟨au7 h.1,ai7 h.2⟩
theorem Cd.row_ok {n l:Nat}(x:α)(h:cut2 l=l):RowOk n (c.row l x):=ai7 (by rw [c.rl,h])
theorem Cd.rows_ok {n l:Nat}(xs:List α)(h:cut2 l=l):∀ row∈xs.map (c.enc l),RowOk n row:=fun row hr=>by
 obtain⟨x,_,rfl⟩:=List.mem_map.1 hr;rw [c.eq];exact c.row_ok x h
theorem Cd.ok_agg {n l:Nat}(x:α)(h:cut2 l=l):Ok n (.agg (c.row l x)):=au7 (c.rl_agg cut2 x h)
theorem Cd.ok_psl {n l:Nat}(xs:List α){sz:Nat}(h:cut2 l=l):Ok n (.psl l sz (xs.map (c.enc l))):=au7 (c.rl_psl cut2 xs h)
mutual
theorem r7 (g:Nat->Option Nat):∀{x:V},x.rl cut2=x->x.rn g=x
 |.agg cs,h=>by
  simp only [V.rl,V.agg.injEq]at h;simp only [V.rn,dY g h]
 |.tup cs,h=>by
  simp only [V.rl,V.tup.injEq]at h;simp only [V.rn,dY g h]
 |.hsl _ _ _,h=>by simp [V.rl]at h
 |.ptr _ _ _ _,h=>by simp [V.rl]at h
 |.mp _ _,h=>by simp [V.rl]at h
 |.int _ _,_=>rfl
 |.bool _,_=>rfl
 |.str _,_=>rfl
 |.psl _ _ _,h=>h
 |.pptr _ _ _ _ _,h=>h
 |.nilsl,_=>rfl
 |.nilp,_=>rfl
 |.nilm,_=>rfl
 |.fn _,_=>rfl
 |.junk,_=>rfl
theorem dY (g:Nat->Option Nat):∀{xs:List V},V.rlL cut2 xs=xs->V.rnL g xs=xs
 | [],_=>rfl
 |x::xs,h=>by
  simp only [V.rlL,List.cons.injEq]at h;simp only [V.rnL,r7 g h.1,dY g h.2]
end
theorem er (g:Nat->Option Nat){l:Nat}(xs:List α)(h:cut2 l=l):Go.Abs.rnR g (xs.map (c.enc l))=xs.map (c.enc l):=by
 unfold Go.Abs.rnR;rw [List.map_map];refine List.map_congr_left fun x _=>?_;show V.rnL g (c.enc l x)=c.enc l x;rw [c.eq];exact dY g (by rw [c.rl,h])
theorem Cd.ones (s:St){l:Nat}(xs:List α)(h:Nat.ble l 1=true):∀ row∈xs.map (c.enc l),row.all (oneV s)=true:=fun row hr=>by
 obtain⟨x,_,rfl⟩:=List.mem_map.1 hr;rw [c.eq];exact c.one s l x h
end
@[reducible] def dy : Cd Int where
 sz:=1
 enc _ n:=[.int .i64 n]
 row _ n:=[.int .i64 n]
 eq _ _:=rfl
 rl _ _ _:=rfl
 len _ _:=rfl
 one _ _ _ _:=rfl
@[reducible] def cStr : Cd (List UInt8) where
 sz:=1
 enc _ n:=[.str n]
 row _ n:=[.str n]
 eq _ _:=rfl
 rl _ _ _:=rfl
 len _ _:=rfl
 one _ _ _ _:=rfl
@[reducible] def cByte : Cd UInt8 where
 sz:=1
 enc _ b:=[.int .u8 b.toNat]
 row _ b:=[.int .u8 b.toNat]
 eq _ _:=rfl
 rl _ _ _:=rfl
 len _ _:=rfl
 one _ _ _ _:=rfl
@[reducible] def cSl {α : Type} (c : Cd α) : Cd (List α) where
 sz:=1
 enc l xs:=[.psl l c.sz (xs.map (c.enc l))]
 row l xs:=[.psl l c.sz (xs.map (c.enc l))]
 eq _ _:=rfl
 rl f l xs:=by simp only [V.rlL,c.rl_psl f xs rfl]
 len _ _:=rfl
 one s l xs h:=by simp [oneV,St.live,h]
section
variable {P:Program} {T:List TI} {s:St} {ops:Array Oper} {d:Option Nat} {ty:Nat} {pos:String} {af:Array Edge} {gu:Option (Nat×Bool)} {r:List Oper} {K:St->Prop} {s1:St}
variable {α:Type}
theorem o9 (c:Cd α){t e l:Nat}{x y:Operand}{xs:List α}{v:α}{k:IntKind}{n:Int}(hn:nth xs n=some v)(hT:TabOK P T)(ht:elemT T t=some (e,c.sz))(hx:ev s x=.psl l c.sz (xs.map (c.enc l)))(hl:s.live l=true)(hi:ev s y=.int k n):
 OpVal P s (.indexAddr t x y) (.pptr l c.sz [c.row l v] 0 0):=
 ov_addr hT ht hx hl hi (cN hn).1 (by rw [List.getElem?_map,(cN hn).2.2,<- c.eq];rfl)
theorem u9 (c:Cd α){t u e l sz:Nat}{x y:Operand}{xs:List α}{v:α}{k:IntKind}{n:Int}(hn:nth xs n=some v)(hT:TabOK P T)(ht:elemT T t=some (e,sz))(hx:ev s x=.hsl u 0 xs.length)(hu:hget s.heap u=some ⟨sz,xs.map (c.enc l)⟩)(hi:ev s y=.int k n):
 OpVal P s (.indexAddr t x y) (.ptr u xs.length n.toNat 0):=
 ov_maddr hT ht hx hu rfl hi ⟨(cN hn).1,(cN hn).2.1⟩
theorem s7 (c:Cd α){t e l sz sz':Nat}{x:Operand}{xs:List α}(hT:TabOK P T)(ht:elemT T t=some (e,sz'))(hx:ev s x=.psl l sz (xs.map (c.enc l)))(hl:s.live l=true):
 OpVal P s (.call ⟨.builtin .len,⟨[x]⟩,⟨[t]⟩⟩) (.int .i64 xs.length):=ov_mlen hT ht hx hl
theorem K7 (c:Cd α){t u e l sz sz':Nat}{x:Operand}{xs:List α}(hT:TabOK P T)(ht:elemT T t=some (e,sz'))(hx:ev s x=.hsl u 0 xs.length)(hu:hget s.heap u=some ⟨sz,xs.map (c.enc l)⟩):
 OpVal P s (.call ⟨.builtin .len,⟨[x]⟩,⟨[t]⟩⟩) (.int .i64 xs.length):=ov_mhlen hT ht hx hu rfl
theorem Y8 (c:Cd α){t u sz l off:Nat}{y:Operand}{ti:TI}{x:V}{xs:List α}{v:α}{n:Int}(hn:nth xs n=some v)(hT:TabOK P T)(ht:T[t]? =some ti)(hy:ev s y=.ptr u xs.length n.toNat off)(hu:hget s.heap u=some ⟨sz,xs.map (c.enc l)⟩)
 (hl:loadRow ti (c.row l v) off=some x):OpVal P s (.load t y) x:=by
 obtain⟨h1,h2,h3⟩:=cN hn;refine ov_mload (dv:=v) hT ht hy hu (by omega) ?_;simp only [List.getD,h3,Option.getD_some,c.eq];exact hl
theorem cU {t:Nat}{x i:Operand}{l:List UInt8}{k:IntKind}{n:Int}{b:UInt8}(hn:nth l n=some b)(hT:TabOK P T)(ht:strT T t=true)(hx:ev s x=.str l)(hi:ev s i=.int k n):OpVal P s (.index t x i) (.int .u8 b.toNat):=by
 obtain⟨h1,h2,h3⟩:=cN hn;have:=ov_byte (s:=s) hT ht hx hi ⟨h1,h2⟩;simp only [List.getD,h3,Option.getD_some]at this;exact this
theorem E3 (c:Cd α){t u sz l off:Nat}{y zz:Operand}{ti:TI}{cs:List V}{xs:List α}{v v':α}{n:Int}(hn:nth xs n=some v)(hT:TabOK P T)
 (hg:gd ops.toList s gu=some true) (ht:T[t]? =some ti) (hy:ev s y=.ptr u xs.length n.toNat off) (hu:hget s.heap u=some ⟨sz,xs.map (c.enc l)⟩)
 (hc:cellsV s (ev s zz)=some cs) (hone:cs.all (oneV s)=true) (hsz:ti.size=cs.length) (hput:putAt (c.row l v) off cs=some (c.row l v'))
 (h:AOps P ops r (s.wr u ⟨sz,(xs.set n.toNat v').map (c.enc l)⟩) K):AOps P ops (⟨none,.store t y zz,ty,pos,af,gu⟩::r) s K:=by
 obtain⟨h1,h2,h3⟩:=cN hn;obtain ⟨p1,p2⟩:=eS hput;refine ao5 (hb:=⟨sz,xs.map (c.enc l)⟩) (row:=c.row l v) hT hg ht hy hu (by simp) (by rw [List.getElem?_map,h3,<- c.eq];rfl) hc hone hsz p2 ?_;rw [<- p1,<- c.eq,<- List.map_set];exact h
theorem A4 (c:Cd α){t tx e u l:Nat}{kd:TK}{sz bts:Nat}{z0:List V}{ag:Bool}{x y:Operand}{xs ys:List α}(hb:(xs.length+ys.length) * bts<=140737488355328)(hbts:Nat.beq bts 0=false)(hT:TabOK P T)(hg:gd ops.toList s gu=some true)(ht:elemI T t=some (e,⟨kd,sz,bts,z0,ag⟩))(htx:notIntT T tx=true)(hz:Nat.beq z0.length sz=true)(hz0:Nat.beq sz 0=false)
 (hx:ev s x=.hsl u 0 xs.length) (hu:hget s.heap u=some ⟨sz,xs.map (c.enc l)⟩) (hsrc:∀ C w a,StRep C w a s->∃ news,Src P C w sz (ys.map (c.enc l)) (a.eval y) news)
 (hp:(s.wr u ⟨sz,(xs++ys).map (c.enc l)⟩).put d (.hsl u 0 (xs++ys).length)=some s1) (h:AOps P ops r s1 K):
 AOps P ops (⟨d,.call ⟨.builtin .append,⟨[x,y]⟩,⟨[t,tx]⟩⟩,ty,pos,af,gu⟩::r) s K:=by
 have hb1:1<=bts:=by rcases Nat.eq_zero_or_pos bts with e|e;(simp [e]at hbts);exact e
 have hle:xs.length+ys.length<=(xs.length+ys.length) * bts:=Nat.le_mul_of_pos_right _ hb1;refine s_append hT hg ht htx ⟨Nat.eq_of_beq_eq_true hz,fun e=>by simp [e]at hz0⟩ hx hu (by simp) hsrc ⟨by simpa using hb,by simp;omega⟩ ?_ h;rw [<- hp,List.map_append];simp
theorem eE (c:Cd α){l:Nat}{ys:List α}{y:Operand}(hy:ev s y=.psl l c.sz (ys.map (c.enc l)))(hl:s.live l=true)(h1:Nat.ble l 1=true):∀ C w a,StRep C w a s->∃ news,Src P C w c.sz (ys.map (c.enc l)) (a.eval y) news:=
 fun C w a hs=>src_psl hs hy hl (c.ones s ys h1)
theorem J2 (c:Cd α){l u:Nat}{ys:List α}{y:Operand}(hy:ev s y=.hsl u 0 ys.length)(hu:hget s.heap u=some ⟨c.sz,ys.map (c.enc l)⟩)(h1:Nat.ble l 1=true):∀ C w a,StRep C w a s->∃ news,Src P C w c.sz (ys.map (c.enc l)) (a.eval y) news:=
 fun C w a hs=>src_hsl hs hy hu (by simp) (c.ones s ys h1)
theorem N6 (c:Cd α){t e n l:Nat}{kd:TK}{sz bts:Nat}{z0:List V}{ag:Bool}{parts:List (Nat×Operand)}(xs:List α)(hT:TabOK P T)(hg:gd ops.toList s gu=some true)(ht:elemI T t=some (e,⟨kd,sz,bts,z0,ag⟩))(hz:z0.isEmpty=false)
 (hr:rowsV s sz 0 parts=some (xs.map (c.row l))) (hn:Nat.beq xs.length n=true) (hb:((Nat.ble (n * sz) 16777216&&flatR (xs.map (c.row l)))&&!Nat.beq sz 0)=true)
 (hp:s.newH sz (xs.map (c.enc l)) xs.length d=some s1) (h:AOps P ops r s1 K):
 AOps P ops (⟨d,.buildSlice t n ⟨parts⟩,ty,pos,af,gu⟩::r) s K:=by
 rw [c.map_eq]at hp;have e:=Nat.eq_of_beq_eq_true hn;rw [e]at hp;exact eN hT hg ht hz hr (by simpa using hn) hb hp h
def xk (T:List TI)(l:List Oper):Nat->List Oper->St->XR
 |0,r,s=>.at s r
 |k+1,o::r,s=>match xstep T l s o with
  |some s'=>xk T l k r s'
  |none=>.no
 |_+1,[],s=>.no
theorem sxk_spec (hT:TabOK P T):∀(k:Nat) {l:List Oper} {s s':St} {r:List Oper},xk T ops.toList k l s=.at s' r->AOps P ops r s' K->AOps P ops l s K
 |0,l,s,s',r,h,g=>by
  simp only [xk,XR.at.injEq]at h;obtain ⟨rfl,rfl⟩:=h;exact g
 |k+1,[],s,s',r,h,g=>by simp [xk]at h
 |k+1,o::l,s,s',r,h,g=>by
  unfold xk at h;split at h
  .rename_i s1 h1;exact sx hT h1 (sxk_spec hT k h g)
  .cases h
theorem sxk (k:Nat){l:List Oper}{s':St}{r:List Oper}(hT:TabOK P T)(hx:xk T ops.toList k l s=.at s' r)(h:AOps P ops r s' K):AOps P ops l s K:=sxk_spec hT k hx h
end
section
variable {P:Program} {s:St} {K:Exit->St->Prop}
theorem o6 {t:Nat}{x y:Code}{p:Prop} [Decidable p] {R:Type}{e1 e2:Option R}{q:R}(hF:(if p then e1 else e2)=some q)(hc:eget s.env t=.bool (decide p))(ht:p->e1=some q->AT P x (s.ovr t (.bool true)) K)(hf:¬p->e2=some q->AT P y (s.ovr t (.bool false)) K):AT P (.cond (.tmp t) x y) s K:=
 at_iftd hc (fun h=>ht h (by rwa [if_pos h]at hF)) (fun h=>hf h (by rwa [if_neg h]at hF))
theorem I2 {t:Nat}{x y:Code}{p:Prop} [Decidable p] {R:Type}{e1 e2:Option R}{q:R}(hF:(if p then e1 else e2)=some q)(hc:eget s.env t=.bool (!decide p))(ht:¬p->e2=some q->AT P x (s.ovr t (.bool true)) K)(hf:p->e1=some q->AT P y (s.ovr t (.bool false)) K):AT P (.cond (.tmp t) x y) s K:=
 at_iftn hc (fun h=>ht h (by rwa [if_neg h]at hF)) (fun h=>hf h (by rwa [if_pos h]at hF))
theorem sV {t:Nat}{x y:Code}{b:Bool}{R:Type}{e1 e2:Option R}{q:R}(hF:(if b=true then e1 else e2)=some q)(hc:eget s.env t=.bool b)(ht:b=true->e1=some q->AT P x (s.ovr t (.bool true)) K)(hf:b=false->e2=some q->AT P y (s.ovr t (.bool false)) K):AT P (.cond (.tmp t) x y) s K:=
 at_ift hc (fun h=>ht h (by rwa [if_pos h]at hF)) (fun h=>hf h (by rw [h]at hF;exact hF))
theorem O6 {t:Nat}{x y:Code}{b:Bool}{R:Type}{e1 e2:Option R}{q:R}(hF:(if b=true then e1 else e2)=some q)(hc:eget s.env t=.bool (!b))(ht:b=false->e2=some q->AT P x (s.ovr t (.bool true)) K)(hf:b=true->e1=some q->AT P y (s.ovr t (.bool false)) K):AT P (.cond (.tmp t) x y) s K:=
 at_ift hc (fun h=>ht (by simpa using h) (by rw [Bool.not_eq_true']at h;rw [h]at hF;exact hF)) (fun h=>hf (by simpa using h) (by rw [Bool.not_eq_false']at h;rw [h]at hF;exact hF))
end
end Go.Abs

namespace Go.Abs
def Le (s s':St):Prop:=∀ C w a,StRep C w a s->∃ C',StRep C' w a s'/\Fr C C' w w
theorem Le.trans {s s' s2:St}(h:Le s s')(g:Le s' s2):Le s s2:=fun C w a hs=>by
 obtain⟨C1,h1,f1⟩:=h C w a hs;obtain ⟨C2,h2,f2⟩:=g C1 w a h1;exact ⟨C2,h2,f1.trans f2⟩
theorem d9 {s s':St}(d:Down s s'):Le s s':=fun C w a hs=>⟨_,d.rep hs⟩
theorem tX {s s':St}(h:∀ C w a,StRep C w a s->StRep C w a s'):Le s s':=fun C w a hs=>⟨C,h C w a hs,Fr.refl _ _⟩
section
variable {P:Program} {s s':St}
theorem gF {c:Code}{K:Exit->St->Prop}(d:Le s s')(h:AT P c s' K):AT P c s K:=by
 intro C w a hs;obtain ⟨C',h1,h2⟩:=d C w a hs;exact wp_mono (h C' w a h1) (fun e a w q=>wX h2 q)
theorem s4 {ops:Array Oper}{l:List Oper}{K:St->Prop}(d:Le s s')(h:AOps P ops l s' K):AOps P ops l s K:=by
 intro C w a Q hs g;obtain ⟨C',h1,h2⟩:=d C w a hs;exact h C' w a Q h1 (vR h2 g)
theorem B0 (i:Nat){x y:V}(hx:eget s.env i=x)(h:VLe x y)(hs':s.ovr i y=s'):Le s s':=tX fun C w a hs=>by
 subst hs';subst hx;cases s with
 |mk env heap nx n lv=>
  refine⟨hs.defers,hs.size,hs.nx,fun j=>?_,hs.heap,hs.lv⟩;simp only [St.ovr,eget];rw [Bool.cond_eq_ite];split
  .rename_i hj;rw [Nat.beq_eq]at hj;subst hj;exact h C w _ (hs.env _)
  .exact hs.env j
def RLe:List (List V)->List (List V)->Prop
 | [],[]=>True
 |r::rs,q::qs=>VLeL r q/\RLe rs qs
 |_,_=>False
theorem RLe.get:∀{rs qs:List (List V)},RLe rs qs->rs.length=qs.length/\∀(i:Nat) q,qs[i]? =some q->∃ r,rs[i]? =some r/\VLeL r q
 | [],[],_=>⟨rfl,fun i q h=>by simp at h⟩
 |r::rs,q::qs,h=>by
  obtain⟨h1,h2⟩:=RLe.get h.2;refine ⟨by simp [h1],fun i q' hq=>?_⟩;cases i with
  |zero=>simp at hq;subst hq;exact⟨r,rfl,h.1⟩
  |succ i=>simpa using h2 i q' (by simpa using hq)
 | [],_::_,h=>h.elim
 |_::_,[],h=>h.elim
theorem blk_le {C:Ctx}{w:World}{L:Loc}{rows rows':List (List V)}(h:RLe rows rows')(hb:Blk C w L rows):Blk C w L rows':=by
 obtain⟨hl,hg⟩:=h.get;refine hb.imp (by omega) (fun e=>by subst e;simpa using hl.symm) (fun _ _=>rfl) (fun b hn h=>?_) fun ents he=>?_
 .obtain ⟨vals,h5⟩:=h;refine ⟨vals,fun i row hi=>?_⟩;obtain ⟨r,hr,hv⟩:=hg i row hi;exact ⟨(h5 i r hr).1,(h5 i r hr).2.1,hv.rep (h5 i r hr).2.2⟩
 .subst he
  match rows',hl with
  | [e'],_=>
   obtain⟨r,hr,hv⟩:=hg 0 e' rfl;simp at hr;subst hr;exact ⟨e',rfl,fun vs h=>hv.rep h⟩
def cde:V->V->Bool
 |.nilsl,.psl l sz rows=>rows.isEmpty&&(Nat.ble l 1||(Nat.beq l 2&&!Nat.beq sz 0))
 |_,y=>!dpc y
def cdeL:List V->List V->Bool
 | [],[]=>true
 |x::xs,y::ys=>cde x y&&cdeL xs ys
 |_,_=>false
theorem topL_cde {C:Ctx}{w:World}:∀{vs:List Value} {r q:List V},RepL C w vs r->cdeL r q=true->TopL w vs q []
 |_,_,[],.nil,_=>.nil
 |_,_,_::_,.nil,h=>by simp [cdeL]at h
 |_,_,[],.cons _ _,h=>by simp [cdeL]at h
 |_,_,y::ys,.cons (v:=v) (x:=x) hv t,h=>by
  simp only [cdeL,Bool.and_eq_true]at h;have ht:=topL_cde t h.2;cases hdy:dpc y with
  |false=>exact .other hdy ht
  |true=>
   have h1:=h.1;unfold cde at h1;split at h1
   .rename_i l sz rows;simp only [Bool.and_eq_true,Bool.or_eq_true,List.isEmpty_iff,Bool.not_eq_true']at h1;obtain ⟨rfl,h2⟩:=h1;rcases h2 with h2|⟨h2,h3⟩
    .simp [dpc,h2]at hdy
    .rw [Nat.beq_eq]at h2;subst h2;cases hv;exact .deep (S:=[]) (.nil (fun e=>by subst e;simp at h3)) ht
   .rw [hdy]at h1;cases h1
theorem topR_in {w:World}{sz:Nat}:∀(rows:List (List V)) (cs:List Value),(∀ (i:Nat) row,rows[i]? =some row->∃ vs:List Value,vs.length=sz/\(∀ (j:Nat) v,vs[j]? =some v->cs[i * sz+j]? =some v)/\TopL w vs row [])->TopR w cs sz rows []
 | [],cs,_=>.nil cs sz
 |row::rows,cs,h=>by
  obtain⟨vs,h1,h2,h3⟩:=h 0 row rfl;have e:cs.take sz=vs:=by
   refine List.ext_getElem? fun j=>?_;rw [List.getElem?_take];split
   .rename_i hj;rw [List.getElem?_eq_getElem (l:=vs) (by omega)];have:=h2 j _ (List.getElem?_eq_getElem (l:=vs) (by omega));simpa using this
   .rename_i hj;rw [List.getElem?_eq_none (by omega)]
  rw [<- List.take_append_drop sz cs,e];refine .cons (S:=[]) (S':=[]) h1 h3 (topR_in rows (cs.drop sz) fun i r hi=>?_);obtain ⟨us,k1,k2,k3⟩:=h (i+1) r (by simpa using hi);refine ⟨us,k1,fun j v hj=>?_,k3⟩;rw [List.getElem?_drop,<- k2 j v hj];congr 1;rw [Nat.succ_mul];omega
theorem topL_none {w:World}:∀{vs:List Value} {xs:List V} {S:List Nat},TopL w vs xs S->(xs.all fun x=>!dpc x)=true->S=[]
 |_,_,_,.nil,_=>rfl
 |_,_,_,.other _ t,h=>by simp only [List.all_cons,Bool.and_eq_true]at h;exact topL_none t h.2
 |_,_,_,.deep _ _,h=>by simp [dpc]at h
theorem ak6 {w:World}:∀{cs:List Value} {sz:Nat} {rows:List (List V)} {S:List Nat},TopR w cs sz rows S->flatR rows=true->S=[]
 |_,_,_,_,.nil _ _,_=>rfl
 |_,_,_,_,.cons _ h t,hf=>by
  simp only [flatR,List.all_cons,Bool.and_eq_true]at hf;rw [topL_none h hf.1,ak6 t hf.2];rfl
theorem deep_cde {C:Ctx}{w:World}{L:Loc}{S:List Nat}{rows rows':List (List V)}(hf:flatR rows=true)(hR:RLe rows rows')(hd:∀(i:Nat) r q,rows[i]? =some r->rows'[i]? =some q->cdeL r q=true)(hb:Blk C w L rows)(h:Deep w L S rows):Deep w L S rows':=by
 cases hbk:L.blk with
 |none=>unfold Deep at h |-;rw [hbk]at h |-;exact h
 |some b=>
  by_cases hz:L.sz=0
  .unfold Deep at h |-;rw [hbk]at h |-;exact⟨h.1,fun h0=>absurd hz h0⟩
  .obtain ⟨cs,el,fz,h1,h2⟩:=ah6 hbk hz h;have:=ak6 h2 hf;subst this;obtain ⟨cs',el',fz',g1,_,_,_,g5⟩:=fQ hbk hz hb;rw [h1]at g1;simp only [Option.some.injEq,Obj.cells.injEq]at g1;obtain ⟨rfl,rfl,rfl⟩:=g1;obtain ⟨vals,hv⟩:=dD h1 g5;refine pS hbk hz ⟨cs,el,fz,h1,topR_in _ _ fun i q hi=>?_⟩;obtain ⟨r,hr,_⟩:=hR.get.2 i q hi;obtain ⟨k1,k2,k3⟩:=hv i r hr;exact ⟨vals i,k1,fun j v hj=>by simpa using k2 j v hj,topL_cde k3 (hd i r q hr hi)⟩
theorem le_row (u:Nat){sz:Nat}{rows rows':List (List V)}(hu:hget s.heap u=some ⟨sz,rows⟩)(h:RLe rows rows')(hf:flatR rows=true)(hd:∀(i:Nat) r q,rows[i]? =some r->rows'[i]? =some q->cdeL r q=true)(hs':s.wr u ⟨sz,rows'⟩=s'):Le s s':=tX fun C w a hs=>by
 subst hs';cases s with
 |mk env heap nx n lv=>
  refine⟨hs.defers,hs.size,hs.nx,hs.env,?_,hs.lv⟩;have H:=hs.heap;refine ⟨fun x hx=>?_,fun x hb hx=>?_,H.lt,H.inj,H.own,H.regs,H.lvs,H.rdis,H.zero,H.two,⟨fun x hb M hx hM=>?_,H.sub.s0,H.sub.nd,H.sub.lt,H.sub.root,H.sub.dis,H.sub.reg⟩,H.tab⟩
  .simp only [St.wr,hget]at hx;rw [Bool.cond_eq_ite]at hx;split at hx
   .cases hx
   .exact H.dom x hx
  .simp only [St.wr,hget]at hx;rw [Bool.cond_eq_ite]at hx;split at hx
   .rename_i he;rw [Nat.beq_eq]at he;subst he;simp only [Option.some.injEq]at hx;subst hx;obtain ⟨L,e1,e2,e3,e4⟩:=H.ent _ _ hu;refine ⟨L,e1,e2,?_,blk_le h e4⟩;rw [e3];exact h.get.1
   .exact H.ent x hb hx
  .simp only [St.wr,hget]at hx;rw [Bool.cond_eq_ite]at hx;split at hx
   .rename_i he;rw [Nat.beq_eq]at he;subst he;simp only [Option.some.injEq]at hx;subst hx;obtain ⟨L,e1,e2,e3,e4⟩:=H.ent _ _ hu;rw [hM]at e1;simp only [Option.some.injEq]at e1;subst e1;exact deep_cde hf h hd e4 (H.sub.dp x _ M hu hM)
   .exact H.sub.dp x hb M hx hM
theorem cA (i:Nat){u n sz:Nat}{rows:List (List V)}(hv:eget s.env i=.hsl u 0 n)(hu:hget s.heap u=some ⟨sz,rows⟩)(hn:n=rows.length)(hs':s.frz i u sz rows=s'):Le s s':=fun C w a hs=>by
 subst hs';exact frz_rep hs hv hu hn
def St.bump:St->Nat->St
 |⟨env,heap,nx,n,lv⟩,m=>⟨env,heap,m,n,lv⟩
theorem qE (m:Nat)(hm:Nat.ble s.nx m=true)(hs':s.bump m=s'):Le s s':=fun C w a hs=>by
 subst hs';have hm':=Nat.le_of_ble_eq_true hm
 let C':Ctx:={ C with nx:=m }
 have hnx:C.nx<=m:=by rw [hs.nx];exact hm'
 have E:Ext C C' w w:=⟨hnx,fun u L _ h=>⟨L,h,.inl rfl⟩,fun _ _ h=>h,fun _ _ _ _ h=>⟨h,rfl⟩⟩
 have H:=hs.heap;refine ⟨C',⟨hs.defers,?_,?_,fun i=>?_,?_,?_⟩,⟨Nat.le_refl _,fun _ _ _=>rfl,fun b h=>.inl h,fun b h=>h,fun b h=>.inl h,rfl,rfl,fun u _ L h=>⟨L,h,.inl rfl⟩⟩⟩
 .cases s;exact hs.size
 .cases s;rfl
 .have:=(hs.env i).mono E;cases s;exact this
 .have key:HSt C' w s.heap:=by
   refine⟨H.dom,fun u hb hu=>?_,fun u L hL=>Nat.lt_of_lt_of_le (H.lt u L hL) hnx,H.inj,H.own,H.regs,fun l hl=>Nat.lt_of_lt_of_le (H.lvs l hl) hnx,H.rdis,?_,Nat.lt_of_lt_of_le H.two hnx,⟨H.sub.dp,H.sub.s0,H.sub.nd,H.sub.lt,H.sub.root,H.sub.dis,H.sub.reg⟩,H.tabR fun _ h=>h⟩
   .obtain ⟨L,e1,e2,e3,e4⟩:=H.ent u hb hu;exact ⟨L,e1,e2,e3,e4.mono E (fun _ _=>rfl)⟩
   .exact H.zero
  cases s;exact key
 .cases s;exact hs.lv
def St.nilrow:St->Nat->Nat->St
 |⟨env,heap,nx,n,lv⟩,i,sz=>⟨(i,.hsl nx 0 0)::env,(nx,⟨sz,[]⟩)::heap,nx+1,n,lv⟩
theorem af8 {C:Ctx}{w:World}{h:List (Nat×HB)}(H:HSt C w h)(sz:Nat):HSt (C.set C.nx ⟨none,sz,0,0⟩ (C.nx+1)) w ((C.nx,⟨sz,[]⟩)::h)/\Ext C (C.set C.nx ⟨none,sz,0,0⟩ (C.nx+1)) w w/\Fr C (C.set C.nx ⟨none,sz,0,0⟩ (C.nx+1)) w w:=by
 have hloc:∀ u L,(C.set C.nx ⟨none,sz,0,0⟩ (C.nx+1)).loc u=some L->(u=C.nx/\L.blk=none)\/C.loc u=some L:=fun u L h=>by
  simp only [Ctx.set]at h;split at h
  .simp only [Option.some.injEq]at h;subst h;exact .inl ⟨by assumption,rfl⟩
  .exact .inr h
 have E:Ext C (C.set C.nx ⟨none,sz,0,0⟩ (C.nx+1)) w w:=by
  refine⟨Nat.le_succ _,fun u L hu h=>?_,fun _ _ h=>h,fun _ _ _ _ h=>⟨h,rfl⟩⟩;simp only [Ctx.set]at h;rw [if_neg (by omega)]at h;exact ⟨L,h,.inl rfl⟩
 refine⟨⟨fun u hu=>?_,fun u hb hu=>?_,fun u L hL=>?_,fun u u' L L' b h1 h2 h3 h4=>?_,fun u L b l h1 h2 h3 h4=>?_,H.regs,fun l hl=>Nat.lt_succ_of_lt (H.lvs l hl),H.rdis,H.zero,Nat.lt_succ_of_lt H.two,?_,H.tabE E H.zero.1⟩,E,?_⟩
 .simp only [hget]at hu;rw [Bool.cond_eq_ite]at hu;split at hu
  .cases hu
  .rename_i hne;rw [Nat.beq_eq]at hne;simp only [Ctx.set];rw [if_neg hne];exact H.dom u hu
 .simp only [hget]at hu;rw [Bool.cond_eq_ite]at hu;split at hu
  .rename_i he;rw [Nat.beq_eq]at he;simp only [Option.some.injEq]at hu;subst hu;subst he;exact ⟨⟨none,sz,0,0⟩,by simp [Ctx.set],rfl,rfl,rfl,rfl⟩
  .rename_i hne;rw [Nat.beq_eq]at hne;obtain ⟨L,e1,e2,e3,e4⟩:=H.ent u hb hu;exact ⟨L,by simp [Ctx.set,hne,e1],e2,e3,e4.mono E (fun _ _=>rfl)⟩
 .rcases hloc u L hL with ⟨rfl,_⟩|h
  .exact Nat.lt_succ_self _
  .exact Nat.lt_succ_of_lt (H.lt u L h)
 .rcases hloc u L h1 with ⟨_,e⟩|h1'
  .rw [e]at h3;cases h3
  .rcases hloc u' L' h2 with ⟨_,e⟩|h2'
   .rw [e]at h4;cases h4
   .exact H.inj u u' L L' b h1' h2' h3 h4
 .rcases hloc u L h1 with ⟨_,e⟩|h1'
  .rw [e]at h2;cases h2
  .exact H.own u L b l h1' h2 h3 h4
 .have hnl:C.loc C.nx=none:=by
   cases hl:C.loc C.nx with
   |none=>rfl
   |some L=>have:=H.lt _ L hl;omega
  refine H.sub.step (fun u=>.inl rfl) (fun u hu=>?_) (Nat.le_refl _) (fun u L b h1 h2=>?_) (fun l b h1 h2=>.inl ⟨h1,h2⟩) (fun u hb L hu h1=>?_)
  .simp only [Ctx.set]at hu;split at hu
   .cases hu
   .exact H.sub.s0 u hu
  .rcases hloc u L h1 with ⟨_,e⟩|h1'
   .rw [e]at h2;cases h2
   .exact .inl ⟨u,L,h1',h2⟩
  .simp only [hget]at hu;rw [Bool.cond_eq_ite]at hu;simp only [Ctx.set]at h1 |-;split at hu
   .rename_i he;rw [Nat.beq_eq]at he;subst he;rw [if_pos rfl]at h1;simp only [Option.some.injEq]at h1;subst h1;rw [H.sub.s0 _ hnl];exact deep_nil rfl
   .rename_i hne;rw [Nat.beq_eq]at hne;rw [if_neg hne]at h1;exact H.sub.old hu h1 (fun _ _=>rfl) (fun _ _=>rfl)
 .refine ⟨Nat.le_refl _,fun _ _ _=>rfl,fun b h=>?_,fun b h=>h,fun b h=>.inl h,rfl,rfl,fun u hu L h=>?_⟩
  .rcases h with ⟨u,L,h1,h2⟩|h
   .rcases hloc u L h1 with ⟨_,e⟩|h1'
    .rw [e]at h2;cases h2
    .exact .inl (.inl ⟨u,L,h1',h2⟩)
   .exact .inl (.inr h)
  .have:=H.two;rcases hloc u L h with ⟨e,_⟩|h'
   .omega
   .exact ⟨L,h',.inl rfl⟩
theorem sM {C:Ctx}{w:World}{v:Value}(sz:Nat)(h:Rep C w v .nilsl):Rep (C.set C.nx ⟨none,sz,0,0⟩ (C.nx+1)) w v (.hsl C.nx 0 0):=by
 cases h;refine .hsl (Nat.lt_succ_self _) fun L hL=>?_;simp only [Ctx.set,if_pos]at hL;simp only [Option.some.injEq]at hL;subst hL;exact ⟨Nat.le_refl _,fun _=>rfl⟩
theorem wO (i sz:Nat)(hv:eget s.env i=.nilsl)(hs':s.nilrow i sz=s'):Le s s':=fun C w a hs=>by
 subst hs';obtain ⟨h1,h2,h3⟩:=af8 hs.heap sz;cases s with
 |mk env heap nx n lv=>
  have hnx:C.nx=nx:=hs.nx;subst hnx;refine ⟨_,⟨hs.defers,hs.size,rfl,fun j=>?_,h1,hs.lv⟩,h3⟩;simp only [St.nilrow,eget];rw [Bool.cond_eq_ite];split
  .rename_i hj;rw [Nat.beq_eq]at hj;subst hj;have:=hs.env j;rw [hv]at this;exact sM sz this
  .exact (hs.env j).mono h2
theorem ak5 {w:World}{x y:V}{suf:List V}(hx:dpc x=false)(hy:dpc y=false):∀{pre:List V} {vs:List Value} {S:List Nat},TopL w vs (pre++x::suf) S->TopL w vs (pre++y::suf) S
 | [],vs,S,h=>by
  generalize e: []++x::suf=l at h;cases h with
  |nil=>cases e
  |other _ t=>simp only [List.nil_append,List.cons.injEq]at e;obtain⟨rfl,rfl⟩:=e;exact .other hy t
  |deep _ _=>simp only [List.nil_append,List.cons.injEq]at e;obtain⟨rfl,rfl⟩:=e;simp [dpc]at hx
 |p::pre,vs,S,h=>by
  generalize e:p::pre++x::suf=l at h;cases h with
  |nil=>cases e
  |other h t=>simp only [List.cons_append,List.cons.injEq]at e;obtain⟨rfl,rfl⟩:=e;exact .other h (ak5 hx hy t)
  |deep h t=>simp only [List.cons_append,List.cons.injEq]at e;obtain⟨rfl,rfl⟩:=e;exact .deep h (ak5 hx hy t)
theorem ae3 {w:World}{L:Loc}{S:List Nat}{x y:V}{pre suf:List V}(hx:dpc x=false)(hy:dpc y=false)(h:Deep w L S [pre++x::suf]):Deep w L S [pre++y::suf]:=by
 unfold Deep at *;split
 .rename_i hn;rw [hn]at h;exact h
 .rename_i b hn;rw [hn]at h;refine ⟨h.1,fun hz=>?_⟩;obtain ⟨cs,el,fz,h1,h2⟩:=h.2 hz;refine ⟨cs,el,fz,h1,?_⟩;generalize cs.toList=l at h2;cases h2 with
  |cons hl hh t=>exact .cons hl (ak5 hx hy hh) (by cases t;exact .nil _ _)
def St.nilcell:St->Nat->Nat->Nat->List V->List V->Nat->St
 |⟨env,heap,nx,n,lv⟩,u,rsz,k,pre,suf,sz=>⟨env,(u,⟨rsz,[pre++ .hsl nx 0 0::suf]⟩)::(nx,⟨sz,[]⟩)::heap,nx+1,n,lv⟩
theorem B3 (u sz:Nat){rsz k:Nat}{pre suf row:List V}(hu:hget s.heap u=some ⟨rsz,[row]⟩)(hr:row=pre++ .nilsl::suf)(hs':s.nilcell u rsz k pre suf sz=s'):Le s s':=fun C w a hs=>by
 subst hs';subst hr;obtain ⟨h1,h2,h3⟩:=af8 hs.heap sz;cases s with
 |mk env heap nx n lv=>
  have hnx:C.nx=nx:=hs.nx;subst hnx;refine ⟨_,⟨hs.defers,hs.size,rfl,fun j=>(hs.env j).mono h2,?_,hs.lv⟩,h3⟩;have hlt:u<C.nx:=by obtain⟨L,e1,_⟩:=hs.heap.ent _ _ hu;exact hs.heap.lt u L e1
  refine⟨fun x hx=>?_,fun x hb hx=>?_,h1.lt,h1.inj,h1.own,h1.regs,h1.lvs,h1.rdis,h1.zero,h1.two,⟨fun x hb M hx hM=>?_,h1.sub.s0,h1.sub.nd,h1.sub.lt,h1.sub.root,h1.sub.dis,h1.sub.reg⟩,h1.tab⟩
  .simp only [St.nilcell,hget]at hx;rw [Bool.cond_eq_ite]at hx;split at hx
   .cases hx
   .exact h1.dom x hx
  .simp only [St.nilcell,hget]at hx;rw [Bool.cond_eq_ite]at hx;split at hx
   .rename_i he;rw [Nat.beq_eq]at he;subst he;simp only [Option.some.injEq]at hx;subst hx;have hu1:hget ((C.nx,⟨sz,[]⟩)::heap) x=some ⟨rsz,[pre++ .nilsl::suf]⟩:=by
     simp only [hget];rw [Bool.cond_eq_ite,if_neg (by simp;omega)];exact hu
    obtain⟨L,e1,e2,e3,e4⟩:=h1.ent _ _ hu1;refine ⟨L,e1,e2,e3,?_⟩;obtain ⟨L0,f1,f2,f3,f4⟩:=hs.heap.ent _ _ hu;have eL:L=L0:=by
     have:(C.set C.nx ⟨none,sz,0,0⟩ (C.nx+1)).loc x=C.loc x:=by simp only [Ctx.set];rw [if_neg (by omega)]
     rw [this,f1]at e1;simpa using e1.symm
    subst eL;have key:∀{vs:List Value} {pre:List V},RepL C w vs (pre++ .nilsl::suf)->RepL (C.set C.nx ⟨none,sz,0,0⟩ (C.nx+1)) w vs (pre++ .hsl C.nx 0 0::suf):=by
     intro vs pre;induction pre generalizing vs with
     |nil=>intro h;cases h with |cons h t=>exact .cons (sM sz h) (RepL.mono h2 t)
     |cons x pre ih=>intro h;cases h with |cons h t=>exact .cons (h.mono h2) (ih t)
    refine Blk.imp (rows:=[pre++ .nilsl::suf]) (by simp) (fun e=>by simp at e) (fun _ _=>rfl) (fun b hn h=>?_) (fun ents he=>?_) f4
    .obtain ⟨vals,g5⟩:=h;refine ⟨vals,fun i row hi=>?_⟩;cases i with
     |succ i=>simp at hi
     |zero=>
      simp at hi;subst hi;obtain ⟨q1,q2,q3⟩:=g5 0 _ rfl;exact ⟨q1,q2,key q3⟩
    .simp only [List.cons.injEq,and_true]at he;subst he;exact ⟨_,rfl,fun vs hv=>key hv⟩
   .exact h1.ent x hb hx
  .simp only [St.nilcell,hget]at hx;rw [Bool.cond_eq_ite]at hx;split at hx
   .rename_i he;rw [Nat.beq_eq]at he;subst he;simp only [Option.some.injEq]at hx;subst hx;have hu1:hget ((C.nx,⟨sz,[]⟩)::heap) x=some ⟨rsz,[pre++ .nilsl::suf]⟩:=by
     simp only [hget];rw [Bool.cond_eq_ite,if_neg (by simp;omega)];exact hu
    exact ae3 rfl rfl (h1.sub.dp x _ M hu1 hM)
   .exact h1.sub.dp x hb M hx hM
end
section
variable {P:Program} {s:St} {K:Exit->St->Prop}
def loopL {σ:Type}(I:σ->St)(Φ:σ->Prop)(K:Exit->St->Prop):Exit->St->Prop
 |.normal,s=>∃ v,Φ v/\Le s (I v)
 |e,s=>K e s
theorem cl_loop {σ R:Type}{c:Code}(I:σ->St)(L:(σ->Option R)->σ->Option R){q:R}(k0:Nat)(v0:σ)(hF:itr L k0 v0=some q)(d0:Le s (I v0))
 (round:∀(k:Nat) v,L (itr L k) v=some q->AT P c (I v) (loopL I (fun v=>itr L k v=some q) K)):AT P (.loop c) s K:=by
 intro C w a hs;obtain ⟨C0,h1,h2⟩:=d0 C w a hs;intro b k cs;have key:∀ n v,itr L n v=some q->∀ C w a,StRep C w a (I v)->∃ e a' w',Post C w K e a' w'/\Arrives P (lone (b.at a (.code c:: .inLoop c::k)) cs w) b k cs e a' w':=by
  intro n;induction n with
  |zero=>intro v hv;cases hv
  |succ n ih=>
   intro v hv C w a hs;obtain ⟨e,a1,w1,hq,harr⟩:=round n v hv C w a hs b (.inLoop c::k) cs;cases e with
   |normal=>
    obtain⟨C1,s1,g1,g2,v',gv,gd⟩:=hq;obtain ⟨C2,e1,e2⟩:=gd C1 w1 a1 g1;obtain ⟨e3,a2,w2,hq2,harr2⟩:=ih v' gv C2 w1 a1 e1;exact ⟨e3,a2,w2,wX (g2.trans e2) hq2,.of_steps (Steps.trans harr (.one step_inLoop)) harr2⟩
   |exit id=>exact⟨_,a1,w1,hq,.pass (x:=.inLoop c) rfl (fun _ _=>.inl (by simp)) harr⟩
   |goto l=>exact⟨_,a1,w1,hq,.pass (x:=.inLoop c) rfl (fun _ _=>.inl (by simp)) harr⟩
   |ret=>exact⟨_,a1,w1,hq,.pass (x:=.inLoop c) rfl (fun _ _=>.inl (by simp)) harr⟩
   |panic ch=>exact⟨_,a1,w1,hq,.pass (x:=.inLoop c) rfl (fun _ _=>.inl (by simp)) harr⟩
   |outgrown=>exact⟨_,a1,w1,hq,.pass (x:=.inLoop c) rfl (fun _ _=>.inl (by simp)) harr⟩
 obtain⟨e,a',w',hq,harr⟩:=key k0 v0 hF C0 w a h1;exact ⟨e,a',w',wX h2 hq,.of_steps (.one step_loop) harr⟩
end
end Go.Abs

namespace Go.Abs
@[irreducible] def LF : Nat := 18446744073709551616
@[irreducible] def RF : Nat := 18446744073709551616
theorem LF_eq:LF=18446744073709551616:=by unfold LF;rfl
theorem RF_eq:RF=18446744073709551616:=by unfold RF;rfl
theorem cl_mid {P:Program}{x:Code}{s:St}{N:St->Prop}{K:Exit->St->Prop}(Q:St->Prop)(h:AT P x s (thenK Q K))(h2:∀ s',Q s'->N s'):AT P x s (thenK N K):=by
 unfold AT at *;intro C w a hs;refine wp_mono (h C w a hs) ?_;rintro e a' w' ⟨C',s',q1,q2,q3⟩;refine ⟨C',s',q1,q2,?_⟩;cases e with
 |normal=>exact h2 s' q3
 |_=>exact q3
theorem ae0 {P:Program}{σ:Type}{x y:Code}{s:St}{K:Exit->St->Prop}(J:σ->St)(Φ:σ->Prop)(h:AT P x s (thenK (fun s'=>∃ v,Φ v/\Le s' (J v)) K))(h2:∀ v,Φ v->AT P y (J v) K):AT P x s (thenK (fun s'=>AT P y s' K) K):=
 cl_mid _ h fun s' ⟨v,hv,d⟩=>gF d (h2 v hv)
theorem F5 {x y:V}(h:x=y):VLe x y:=by subst h;exact l5 x
theorem m8 {Q:St->Prop}{K:Exit->St->Prop}{s:St}(h:Q s):thenK Q K .normal s:=h
theorem q8 {σ:Type}{I:σ->St}{Φ:σ->Prop}{K:Exit->St->Prop}{s:St}(h:∃ v,Φ v/\Le s (I v)):loopL I Φ K .normal s:=h
theorem U0 {id:Nat}{N:St->Prop}{K:Exit->St->Prop}{s:St}(h:K (.exit id) s):thenK N K (.exit id) s:=h
theorem U3 {id:Nat}{σ:Type}{I:σ->St}{Φ:σ->Prop}{K:Exit->St->Prop}{s:St}(h:K (.exit id) s):loopL I Φ K (.exit id) s:=h
theorem B1 {N:St->Prop}{K:Exit->St->Prop}{s:St}(h:K .ret s):thenK N K .ret s:=h
theorem bU {σ:Type}{I:σ->St}{Φ:σ->Prop}{K:Exit->St->Prop}{s:St}(h:K .ret s):loopL I Φ K .ret s:=h
theorem E7 {id:Nat}{K:Exit->St->Prop}{s:St}(h:K .ret s):blockK id K .ret s:=h
theorem G4 {id:Nat}{K:Exit->St->Prop}{s:St}(h:K .normal s):blockK id K .normal s:=h
theorem av4 {f:Nat->Nat}{xs ys:List V}(h:V.rlL f xs=ys):V.rl f (.agg xs)=.agg ys:=by simp only [V.rl,h]
theorem av5 {f:Nat->Nat}{xs ys:List V}(h:V.rlL f xs=ys):V.rl f (.tup xs)=.tup ys:=by simp only [V.rl,h]
section
variable {P:Program} {T:List TI} {s:St} {ops:Array Oper} {d:Option Nat} {ty:Nat} {pos:String} {af:Array Edge} {gu:Option (Nat×Bool)} {r:List Oper} {K:St->Prop} {s1:St}
variable {α:Type}
theorem ac4 {l:List Oper}{g:Nat}{b:Bool}(hv:eget s.env g=.bool b)(ht:b=true->AOps P ops l (s.ovr g (.bool true)) K)(hf:b=false->AOps P ops l (s.ovr g (.bool false)) K):AOps P ops l s K:=by
 intro C w a Q hs hq;cases b
 .exact hf rfl C w a Q (av1 hs hv) hq
 .exact ht rfl C w a Q (av1 hs hv) hq
section
variable {l:List Oper} {g:Nat} {p:Prop} [Decidable p] {R:Type} {e1 e2:Option R} {q:R} {N:St->Prop} {lo:List Oper}
theorem t0 (hF:(if p then e1 else e2)=some q)(hv:eget s.env g=.bool (decide p))(ht:p->e1=some q->AOps P ops l (s.ovr g (.bool true)) K)(hf:¬p->e2=some q->AOps P ops l (s.ovr g (.bool false)) K):AOps P ops l s K:=
 ac4 hv (fun h=>by have h:p:=(by simpa using h);exact ht h (by rwa [if_pos h]at hF)) (fun h=>by have h:¬p:=(by simpa using h);exact hf h (by rwa [if_neg h]at hF))
theorem W1 (hF:(if p then e1 else e2)=some q)(hv:eget s.env g=.bool (!decide p))(ht:¬p->e2=some q->AOps P ops l (s.ovr g (.bool true)) K)(hf:p->e1=some q->AOps P ops l (s.ovr g (.bool false)) K):AOps P ops l s K:=
 ac4 hv (fun h=>by have h:¬p:=(by simpa using h);exact ht h (by rwa [if_neg h]at hF)) (fun h=>by have h:p:=(by simpa using h);exact hf h (by rwa [if_pos h]at hF))
theorem U1 {b:Bool}(hF:(if b=true then e1 else e2)=some q)(hv:eget s.env g=.bool b)(ht:b=true->e1=some q->AOps P ops l (s.ovr g (.bool true)) K)(hf:b=false->e2=some q->AOps P ops l (s.ovr g (.bool false)) K):AOps P ops l s K:=
 ac4 hv (fun h=>ht h (by rwa [if_pos h]at hF)) (fun h=>hf h (by rw [h]at hF;exact hF))
theorem O5 {b:Bool}(hF:(if b=true then e1 else e2)=some q)(hv:eget s.env g=.bool (!b))(ht:b=false->e2=some q->AOps P ops l (s.ovr g (.bool true)) K)(hf:b=true->e1=some q->AOps P ops l (s.ovr g (.bool false)) K):AOps P ops l s K:=
 ac4 hv (fun h=>by have h:b=false:=(by simpa using h);exact ht h (by rw [h]at hF;exact hF)) (fun h=>by have h:b=true:=(by simpa using h);exact hf h (by rwa [if_pos h]at hF))
end
theorem A3 {t u n i off k o ft:Nat}{y:Operand}{sz:Nat}{rows:List (List V)}(hT:TabOK P T)(hf:fieldOf T t k=some (o,ft))(hz:Nat.beq (sizeT T ft) 0=false)(hy:ev s y=.ptr u n i off)(hu:hget s.heap u=some ⟨sz,rows⟩)(hn:n=rows.length):OpVal P s (.fieldAddr t y k) (.ptr u n i (off+o)):=by
 refine uA (T:=T) hT ?_;subst hn;simp only [pstep,hf,hz,hy,hu,Nat.beq_refl,cond_true,cond_false]
theorem oc_quo {t t':Nat}{x y:Operand}{a b:Int}(hx:ev s x=.int .i64 a)(hy:ev s y=.int .i64 b)(h:0<=a/\a<=9223372036854775807/\0<b):OpVal P s (.binOp .quo t x y t') (.int .i64 (a / b)):=ov_quo hx hy h
theorem oc_rem {t t':Nat}{x y:Operand}{a b:Int}(hx:ev s x=.int .i64 a)(hy:ev s y=.int .i64 b)(h:0<=a/\a<=9223372036854775807/\0<b):OpVal P s (.binOp .rem t x y t') (.int .i64 (a % b)):=ov_rem hx hy ⟨h.1,h.2.2⟩
theorem R0 {x:Value}{y:Nat}{n:Int}{c:BoundsCode}{k:IntKind}(hx:x=.int k n)(h:0<=n/\n<=(y:Int))(w:World):(Instr.sliceBound x y c).run P w=.ok n.toNat w:=by
 subst hx;simp [Instr.sliceBound,asIntOf,h.1,h.2]
theorem ov_substr {t:Nat}{x:Operand}{l:List UInt8}(lo hi:Option Operand){a b:Nat}(hT:TabOK P T)(ht:strT T t=true)(hx:ev s x=.str l)
 (hlo:match lo with |none=>a=0|some y=>∃ k n,ev s y=.int k n/\0<=n/\a=n.toNat)
 (hhi:match hi with |none=>b=l.length|some y=>∃ k n,ev s y=.int k n/\0<=n/\b=n.toNat) (hab:a<=b) (hbl:b<=l.length):
 OpVal P s (.slice t x lo hi none) (.str ((l.take b).drop a)):=fun C w ac hs d ty pos af gu=>by
 have hv:=hs.ev x;rw [hx]at hv;generalize e1:ac.eval x=v at hv;cases hv;refine ⟨.string ((⟨l.toArray⟩:ByteArray).extract a b),fun w' _=>?_,?_⟩
 .have hsz:(⟨l.toArray⟩:ByteArray).size=l.length:=lR l;have H:(Instr.sliceBounds false l.length l.length (lo.map ac.eval) (hi.map ac.eval) none).run P w'=.ok (a,b,l.length) w':=by
   unfold Instr.sliceBounds;cases hi with
   |none=>
    simp only at hhi;subst hhi;cases lo with
    |none=>simp only at hlo;subst hlo;simp
    |some y=>
     obtain⟨k,n,h1,h2,rfl⟩:=hlo;have hv2:=hs.ev y;rw [h1]at hv2;generalize e2:ac.eval y=v2 at hv2;cases hv2;simp [e2,R0 rfl (show 0<=n/\n<=((l.length:Nat):Int)by omega)]
   |some z=>
    obtain⟨k,m,h1,h2,rfl⟩:=hhi;have hv3:=hs.ev z;rw [h1]at hv3;generalize e3:ac.eval z=v3 at hv3;cases hv3;cases lo with
    |none=>simp only at hlo;subst hlo;simp [e3,R0 rfl (show 0<=m/\m<=((l.length:Nat):Int)by omega)]
    |some y=>
     obtain⟨k,n,h4,h5,rfl⟩:=hlo;have hv2:=hs.ev y;rw [h4]at hv2;generalize e2:ac.eval y=v2 at hv2;cases hv2;simp [e2,e3,R0 rfl (show 0<=m/\m<=((l.length:Nat):Int)by omega),R0 rfl (show 0<=n/\n<=((m.toNat:Nat):Int)by omega)]
  simp [execOp,e1,Instr.sliceAt,Instr.slice,run_underlying (strT_spec hT ht),hsz,H]
 .have:(⟨l.toArray⟩:ByteArray).extract a b=⟨((l.take b).drop a).toArray⟩:=by
   ext1;simp [ByteArray.data_extract,List.extract_toArray,List.extract,List.drop_take]
  rw [this];exact .str _
theorem ov_psub {t e sz lb:Nat}{x:Operand}{rows:List (List V)}(lo hi:Option Operand){a b:Nat}(hT:TabOK P T)(ht:elemT T t=some (e,sz))(hx:ev s x=.psl lb sz rows)(hl:s.live lb=true)
 (hlo:match lo with |none=>a=0|some y=>∃ k n,ev s y=.int k n/\0<=n/\a=n.toNat)
 (hhi:match hi with |none=>b=rows.length|some y=>∃ k n,ev s y=.int k n/\0<=n/\b=n.toNat) (hab:a<=b) (hbl:b<=rows.length):
 OpVal P s (.slice t x lo hi none) (.psl lb sz ((rows.take b).drop a)):=fun C w ac hs d ty pos af gu=>by
 have hv:=hs.ev x;rw [hx]at hv;obtain ⟨hu,te,hte,hsz⟩:=rV hT ht;have H:∀(len cap:Nat),len=rows.length->b<=cap->∀ w',(Instr.sliceBounds true len cap (lo.map ac.eval) (hi.map ac.eval) none).run P w'=.ok (a,b,cap) w':=fun len cap hlen hcap w'=>by
  unfold Instr.sliceBounds;cases hi with
  |none=>
   simp only at hhi;subst hhi;cases lo with
   |none=>simp only at hlo;subst hlo;simp [hlen]
   |some y=>
    obtain⟨k,n,h1,h2,rfl⟩:=hlo;have hv2:=hs.ev y;rw [h1]at hv2;generalize e2:ac.eval y=v2 at hv2;cases hv2;subst hlen;simp [e2,R0 rfl (show 0<=n/\n<=((rows.length:Nat):Int)by omega)]
  |some z=>
   obtain⟨k,m,h1,h2,rfl⟩:=hhi;have hv3:=hs.ev z;rw [h1]at hv3;generalize e3:ac.eval z=v3 at hv3;cases hv3;cases lo with
   |none=>simp only at hlo;subst hlo;simp [e3,R0 rfl (show 0<=m/\m<=((cap:Nat):Int)by omega)]
   |some y=>
    obtain⟨k,n,h4,h5,rfl⟩:=hlo;have hv2:=hs.ev y;rw [h4]at hv2;generalize e2:ac.eval y=v2 at hv2;cases hv2;simp [e2,e3,R0 rfl (show 0<=m/\m<=((cap:Nat):Int)by omega),R0 rfl (show 0<=n/\n<=((m.toNat:Nat):Int)by omega)]
 have hrun:∀ ad len cap,ac.eval x=.slice ad len cap->len=rows.length->b<=cap->∀ w',(execOp ac.eval ⟨d,.slice t x lo hi none,ty,pos,af,gu⟩).run P w'=.ok (.value (.slice (if cap=a then ad else ad.map (·.add (a * sz))) (b-a) (cap-a))) w':=fun ad len cap e hlen hcap w'=>by
  simp [execOp,e,Instr.sliceAt,Instr.slice,run_underlying hu,H len cap hlen hcap w',hT.size hte,hsz]
 generalize e1:ac.eval x=v at hv hrun;cases hv with
 |psl0 ad cap=>
  have h0:b=0:=by simpa using hbl
  subst h0;have h0':a=0:=by omega
  subst h0';refine ⟨_,fun w' _=>hrun ad 0 cap rfl rfl (Nat.zero_le _) w',?_⟩;simp only [List.take_nil,List.drop_nil,Nat.sub_self];exact .psl0 _ _ _ _
 |psld _ h1 _=>exact absurd (hs.live hl) h1
 |psl vals h1 h2 h3 hlen hlc h5 h6=>
  rename_i blk off len cap;have hcap:b<=cap:=by omega
  .refine ⟨_,fun w' _=>hrun _ len cap rfl hlen hcap w',?_⟩;by_cases hz:b=a
   .subst hz;have:(rows.take b).drop b=[]:=by simp
    rw [this,Nat.sub_self];exact .psl0 _ _ _ _
   .have hne:¬ cap=a:=by omega
    rw [if_neg hne];simp only [Option.map_some,cG];have hget:∀(i:Nat) row,((rows.take b).drop a)[i]? =some row->rows[a+i]? =some row:=fun i row hi=>by
     rw [List.getElem?_drop,List.getElem?_take]at hi;split at hi
     .exact hi
     .cases hi
    refine .psl (off:=off+a * sz) (fun i=>vals (a+i)) h1 h2 h3 (by simp;omega) (by omega) (fun i row hi=>⟨(h5 _ _ (hget i row hi)).1,fun j v hj=>?_⟩) (fun i row hi=>h6 _ _ (hget i row hi));have:=(h5 _ _ (hget i row hi)).2 j v hj;rw [<- this];congr 2;rw [Nat.add_mul];omega
theorem oc_psub_l (c:Cd α){t e lb:Nat}{x y:Operand}{l:List α}{n:Int}{k:IntKind}(hb:0<=n/\n<=l.length)(hT:TabOK P T)(ht:elemT T t=some (e,c.sz))(hx:ev s x=.psl lb c.sz (l.map (c.enc lb)))(hl:s.live lb=true)(hy:ev s y=.int k n):OpVal P s (.slice t x (some y) none none) (.psl lb c.sz ((l.drop n.toNat).map (c.enc lb))):=by
 have:=ov_psub (s:=s) (some y) none hT ht hx hl ⟨k,n,hy,hb.1,rfl⟩ rfl (by simp;omega) (Nat.le_refl _);rw [List.take_length,<- List.map_drop]at this;exact this
theorem oc_psub_h (c:Cd α){t e lb:Nat}{x y:Operand}{l:List α}{n:Int}{k:IntKind}(hb:0<=n/\n<=l.length)(hT:TabOK P T)(ht:elemT T t=some (e,c.sz))(hx:ev s x=.psl lb c.sz (l.map (c.enc lb)))(hl:s.live lb=true)(hy:ev s y=.int k n):OpVal P s (.slice t x none (some y) none) (.psl lb c.sz ((l.take n.toNat).map (c.enc lb))):=by
 have:=ov_psub (s:=s) none (some y) hT ht hx hl rfl ⟨k,n,hy,hb.1,rfl⟩ (by omega) (by simp;omega);rw [List.drop_zero,<- List.map_take]at this;exact this
theorem wZ {z y:List V}(h:VLeL z y):∀ n:Nat,RLe (List.replicate n z) (List.replicate n y)
 |0=>trivial
 |n+1=>⟨h,wZ h n⟩
theorem as4 {u:Nat}{A B:HB}{H:List (Nat×HB)}(x:Nat):hget ((u,A)::(u,B)::H) x=hget ((u,A)::H) x:=by
 simp only [hget];cases Nat.beq x u<;>rfl
theorem hst_drop {C:Ctx}{w:World}{u:Nat}{A B:HB}{h:List (Nat×HB)}(H:HSt C w ((u,A)::(u,B)::h)):HSt C w ((u,A)::h):=
 ⟨fun x hx=>H.dom x (by rw [as4];exact hx),fun x q hx=>H.ent x q (by rw [as4];exact hx),H.lt,H.inj,H.own,H.regs,H.lvs,H.rdis,H.zero,H.two,⟨fun x q L hx=>H.sub.dp x q L (by rw [as4];exact hx),H.sub.s0,H.sub.nd,H.sub.lt,H.sub.root,H.sub.dis,H.sub.reg⟩,H.tab⟩
theorem uW (c:Cd α){z:List V}{v:α}{t e l:Nat}{kd:TK}{sz bts:Nat}{ag:Bool}{x y:Operand}{n:Int}(hb:0<=n/\bts * n<=281474976710656/\n<=281474976710656)(hT:TabOK P T)(hg:gd ops.toList s gu=some true)(ht:elemI T t=some (e,⟨kd,sz,bts,z,ag⟩))(hx:ev s x=.int .i64 n)(hy:ev s y=.int .i64 n)
 (hz:VLeL z (c.row l v)) (hde:cdeL z (c.row l v)=true) (hsz:Nat.beq z.length sz=true) (hs0:Nat.beq sz 0=false)
 (hp:s.newH sz ((List.replicate n.toNat v).map (c.enc l)) (List.replicate n.toNat v).length d=some s1) (h:AOps P ops r s1 K):
 AOps P ops (⟨d,.makeSlice t x y,ty,pos,af,gu⟩::r) s K:=by
 rw [List.map_replicate,c.eq,List.length_replicate]at hp;have hR:=wZ hz n.toNat;have hfl:flatR (List.replicate n.toNat z)=true:=flat_rep (xW hT (gR hT ht).2 (by have h1:=Nat.eq_of_beq_eq_true hsz;cases z with |nil=>subst h1;simp at hs0|cons _ _=>rfl)) _;have hde':∀(i:Nat) r q,(List.replicate n.toNat z)[i]? =some r->(List.replicate n.toNat (c.row l v))[i]? =some q->cdeL r q=true:=fun i r q h1 h2=>by
  rw [List.eq_of_mem_replicate (List.mem_of_getElem? h1),List.eq_of_mem_replicate (List.mem_of_getElem? h2)];exact hde
 cases s with
 |mk env heap nx m lv=>
  cases d with
  |none=>
   simp only [St.newH,Option.some.injEq]at hp;subst hp;refine s_make hT hg ht hx hy ⟨Nat.eq_of_beq_eq_true hsz,fun e=>by simp [e]at hs0⟩ hb (s1:=⟨env,(nx,⟨sz,List.replicate n.toNat z⟩)::heap,nx+1,m,lv⟩) rfl ?_;refine s4 (Le.trans (le_row nx (sz:=sz) (by simp [hget]) hR hfl hde' rfl) (tX fun C w a hs=>?_)) h;exact ⟨hs.defers,hs.size,hs.nx,hs.env,hst_drop hs.heap,hs.lv⟩
  |some d=>
   simp only [St.newH]at hp;rw [Bool.cond_eq_ite]at hp;split at hp
   .rename_i hd;simp only [Option.some.injEq]at hp;subst hp;refine s_make hT hg ht hx hy ⟨Nat.eq_of_beq_eq_true hsz,fun e=>by simp [e]at hs0⟩ hb (s1:=⟨(d,.hsl nx 0 n.toNat)::env,(nx,⟨sz,List.replicate n.toNat z⟩)::heap,nx+1,m,lv⟩) (by simp [St.newH,hd]) ?_;refine s4 (Le.trans (le_row nx (sz:=sz) (by simp [hget]) hR hfl hde' rfl) (tX fun C w a hs=>?_)) h;exact ⟨hs.defers,hs.size,hs.nx,hs.env,hst_drop hs.heap,hs.lv⟩
   .cases hp
def St.renum:St->Nat->Nat->Nat->Nat->List (List V)->St
 |⟨env,heap,nx,n,lv⟩,i,u,len,sz,rows=>⟨(i,.hsl nx 0 len)::env,(nx,⟨sz,rows⟩)::hdel u heap,nx+1,n,lv⟩
theorem au1 {s':St}(i:Nat){u len sz:Nat}{rows:List (List V)}(hv:eget s.env i=.hsl u 0 len)(hu:hget s.heap u=some ⟨sz,rows⟩)(hlen:len=rows.length)(hs':s.renum i u len sz rows=s'):Le s s':=fun C w a hs=>by
 subst hs';have hrep:=hs.env i;rw [hv]at hrep;obtain ⟨L,h1,h2,h3,h4,h5⟩:=aO hs.heap hrep hu (by show 0+len=rows.length;omega);have H:=hs.heap;have hux:=H.lt u L h1
 let C':Ctx:={ C with loc:=fun x=>if x=C.nx then some L else if x=u then none else C.loc x,nx:=C.nx+1,sub:=fun x=>if x=C.nx then C.sub u else if x=u then []else C.sub x }
 have hloc:∀ x M,C'.loc x=some M->(x=C.nx/\M=L)\/(x≠C.nx/\x≠u/\C.loc x=some M):=fun x M h=>by
  simp only [C']at h;split at h
  .simp only [Option.some.injEq]at h;exact .inl ⟨by assumption,h.symm⟩
  .split at h
   .cases h
   .exact .inr ⟨by assumption,by assumption,h⟩
 have E:Ext C C' w w:=by
  refine⟨Nat.le_succ _,fun x M hx h=>?_,fun _ _ h=>h,fun _ _ _ _ h=>⟨h,rfl⟩⟩;rcases hloc x M h with ⟨e,_⟩|⟨_,_,h⟩
  .omega
  .exact ⟨M,h,.inl rfl⟩
 have hsf:s.renum i u len sz rows=⟨(i,.hsl C.nx 0 len)::s.env,(C.nx,⟨sz,rows⟩)::hdel u s.heap,C.nx+1,s.n,s.lv⟩:=by cases s;simp only [St.renum];rw [hs.nx]
 have orig:∀ x M,C'.loc x=some M->∃ y,C.loc y=some M/\(x=C.nx->y=u)/\(x≠C.nx->y=x/\x≠u):=fun x M h=>by
  rcases hloc x M h with ⟨e,rfl⟩|⟨e1,e2,h⟩
  .exact ⟨u,h1,fun _=>rfl,fun h=>absurd e h⟩
  .exact ⟨x,h,fun h=>absurd h e1,fun _=>⟨rfl,e2⟩⟩
 have origs:∀ x b,b∈C'.sub x->∃ y,b∈C.sub y/\(x=C.nx->y=u)/\(x≠C.nx->y=x/\x≠u):=fun x b h=>by
  simp only [C']at h;split at h
  .rename_i e;exact⟨u,h,fun _=>rfl,fun h=>absurd e h⟩
  .split at h
   .cases h
   .rename_i e1 e2;exact⟨x,h,fun h=>absurd h e1,fun _=>⟨rfl,e2⟩⟩
 refine⟨C',?_,?_⟩
 .rw [hsf];refine ⟨hs.defers,hs.size,rfl,fun j=>?_,⟨fun x hx=>?_,fun x hbk hx=>?_,fun x M hM=>?_,fun x x' M M' c g1 g2 g3 g4=>?_,fun x M c l g1 g2 g3 g4=>?_,H.regs,fun l hl=>Nat.lt_succ_of_lt (H.lvs l hl),H.rdis,H.zero,Nat.lt_succ_of_lt H.two,?_,H.tabE E H.zero.1⟩,hs.lv⟩
  .simp only [eget];rw [Bool.cond_eq_ite];split
   .rename_i hj;rw [Nat.beq_eq]at hj;subst hj;refine .hsl (Nat.lt_succ_self _) fun L' hL'=>?_;simp only [C',if_pos]at hL';simp only [Option.some.injEq]at hL';subst hL';have h3':L.n=rows.length:=h3;exact ⟨by omega,fun _=>h5⟩
   .exact (hs.env j).mono E
  .simp only [hget]at hx;rw [Bool.cond_eq_ite]at hx;split at hx
   .cases hx
   .rename_i hne;rw [Nat.beq_eq]at hne;rw [O0]at hx;simp only [C'];rw [if_neg hne];split
    .rfl
    .rename_i hne2;rw [if_neg hne2]at hx;exact H.dom x hx
  .simp only [hget]at hx;rw [Bool.cond_eq_ite]at hx;split at hx
   .rename_i he;rw [Nat.beq_eq]at he;simp only [Option.some.injEq]at hx;subst hx;subst he;exact ⟨L,by simp [C'],h2,h3,h4.mono E (fun _ _=>rfl)⟩
   .rename_i hne;rw [Nat.beq_eq]at hne;rw [O0]at hx;split at hx
    .cases hx
    .rename_i hne2;obtain ⟨M,g1,g2,g3,g4⟩:=H.ent x hbk hx;exact ⟨M,by simp only [C'];rw [if_neg hne,if_neg hne2];exact g1,g2,g3,g4.mono E (fun _ _=>rfl)⟩
  .obtain ⟨y,g1,g2,g3⟩:=orig x M hM;by_cases e:x=C.nx
   .show x<C.nx+1;omega
   .have:=H.lt y M g1;have:=(g3 e).1;show x<C.nx+1;omega
  .obtain ⟨y,p1,p2,p3⟩:=orig x M g1;obtain ⟨y',p4,p5,p6⟩:=orig x' M' g2;have e:=H.inj y y' M M' c p1 p4 g3 g4;by_cases e1:x=C.nx<;>by_cases e2:x'=C.nx
   .omega
   .have:=p2 e1;have:=(p6 e2);omega
   .have:=p5 e2;have:=(p3 e1);omega
   .have:=(p3 e1).1;have:=(p6 e2).1;omega
  .obtain ⟨y,p1,_,_⟩:=orig x M g1;exact H.own y M c l p1 g2 g3 g4
  .refine ⟨fun x hb M hx hM=>?_,fun x hx=>?_,fun x=>?_,fun x b hb=>?_,fun x b x' M hb g1 g2=>?_,fun x x' b hb hb'=>?_,fun x b l hb g1 g2=>?_⟩
   .simp only [hget]at hx;rw [Bool.cond_eq_ite]at hx;rcases hloc x M hM with ⟨rfl,rfl⟩|⟨e1,e2,hM'⟩
    .rw [if_pos (by simp)]at hx;simp only [Option.some.injEq]at hx;subst hx;simp only [C',if_pos];exact H.sub.dp u _ M hu h1
    .rw [if_neg (by rw [Nat.beq_eq];exact e1),O0,if_neg e2]at hx;simp only [C'];rw [if_neg e1,if_neg e2];exact H.sub.dp x hb M hx hM'
   .simp only [C']at hx |-;split at hx
    .cases hx
    .rename_i e1;rw [if_neg e1];split at hx
     .rename_i e2;rw [if_pos e2]
     .rename_i e2;rw [if_neg e2];exact H.sub.s0 x hx
   .simp only [C'];split
    .exact H.sub.nd u
    .split
     .exact .nil
     .exact H.sub.nd x
   .obtain ⟨y,k1,_⟩:=origs x b hb;exact H.sub.lt y b k1
   .obtain ⟨y,k1,_⟩:=origs x b hb;obtain ⟨y',k2,_⟩:=orig x' M g1;exact H.sub.root y b y' M k1 k2 g2
   .obtain ⟨y,k1,p2,p3⟩:=origs x b hb;obtain ⟨y',k2,p5,p6⟩:=origs x' b hb';have e:=H.sub.dis y y' b k1 k2;have hux:=H.lt u L h1;by_cases e1:x=C.nx<;>by_cases e2:x'=C.nx
    .omega
    .have:=p2 e1;have:=(p6 e2);omega
    .have:=p5 e2;have:=(p3 e1);omega
    .have:=(p3 e1).1;have:=(p6 e2).1;omega
   .obtain ⟨y,k1,_⟩:=origs x b hb;exact H.sub.reg y b l k1 g1 g2
 .refine ⟨Nat.le_refl _,fun _ _ _=>rfl,fun b hb=>?_,fun b hb=>hb,fun b hb=>.inl hb,rfl,rfl,fun x hx M h=>?_⟩
  .rcases hb with ⟨x,M,g1,g2⟩|hb|⟨x,hb⟩
   .obtain ⟨y,p1,_,_⟩:=orig x M g1;exact .inl (.inl ⟨y,M,p1,g2⟩)
   .exact .inl (.inr (.inl hb))
   .obtain ⟨y,k1,_⟩:=origs x b hb;exact .inl (.inr (.inr ⟨y,k1⟩))
  .rcases hloc x M h with ⟨e,_⟩|⟨_,_,h⟩
   .have:=H.two;omega
   .exact ⟨M,h,.inl rfl⟩
theorem sc_append0 (c:Cd α){t tx e l:Nat}{kd:TK}{sz bts:Nat}{z0:List V}{ag:Bool}{x y:Operand}{ys:List α}(hb:ys.length * bts<=140737488355328)(hbts:Nat.beq bts 0=false)(hT:TabOK P T)(hg:gd ops.toList s gu=some true)(ht:elemI T t=some (e,⟨kd,sz,bts,z0,ag⟩))(htx:notIntT T tx=true)(hz:Nat.beq z0.length sz=true)(hz0:Nat.beq sz 0=false)
 (hx:ev s x=.nilsl) (hsrc:∀ C w a,StRep C w a s->∃ news,Src P C w sz (ys.map (c.enc l)) (a.eval y) news)
 (hp:s.newH sz (ys.map (c.enc l)) ys.length d=some s1) (h:AOps P ops r s1 K):
 AOps P ops (⟨d,.call ⟨.builtin .append,⟨[x,y]⟩,⟨[t,tx]⟩⟩,ty,pos,af,gu⟩::r) s K:=by
 have hb1:1<=bts:=by rcases Nat.eq_zero_or_pos bts with e|e;(simp [e]at hbts);exact e
 have hle:ys.length<=ys.length * bts:=Nat.le_mul_of_pos_right _ hb1;refine gQ hg fun C w a hs=>?_;obtain ⟨h1,h2,h3⟩:=af8 hs.heap sz;have hs1:StRep (C.set C.nx ⟨none,sz,0,0⟩ (C.nx+1)) w a ⟨s.env,(s.nx,⟨sz,[]⟩)::s.heap,s.nx+1,s.n,s.lv⟩:=by
  have e:C.nx=s.nx:=hs.nx;refine ⟨hs.defers,hs.size,?_,fun i=>(hs.env i).mono h2,?_,hs.lv⟩
  .show C.nx+1=s.nx+1;rw [e]
  .rw [<- e];exact h1
 have hv:Rep (C.set C.nx ⟨none,sz,0,0⟩ (C.nx+1)) w (a.eval x) (.hsl s.nx 0 0):=by
  have:=hs.ev x;rw [hx]at this;rw [<- hs.nx];exact sM sz this
 have hS:∃ news,Src P (C.set C.nx ⟨none,sz,0,0⟩ (C.nx+1)) w sz (ys.map (c.enc l)) (a.eval y) news:=by
  obtain⟨news,q1,q2,q3,q4,q5,q6⟩:=hsrc C w a hs;exact ⟨news,q1,q2,q3,q4.mono h2,q5,q6⟩
 have hp':((⟨s.env,(s.nx,⟨sz,[]⟩)::s.heap,s.nx+1,s.n,s.lv⟩:St).wr s.nx ⟨sz,[]++ys.map (c.enc l)⟩).put d (.hsl s.nx 0 (0+(ys.map (c.enc l)).length))=some (match d with |none=>⟨s.env,(s.nx,⟨sz,ys.map (c.enc l)⟩)::(s.nx,⟨sz,[]⟩)::s.heap,s.nx+1,s.n,s.lv⟩|some d=>⟨(d,.hsl s.nx 0 ys.length)::s.env,(s.nx,⟨sz,ys.map (c.enc l)⟩)::(s.nx,⟨sz,[]⟩)::s.heap,s.nx+1,s.n,s.lv⟩):=by
  cases s with
  |mk env heap nx n lv=>
   cases d with
   |none=>simp [St.wr,St.put]
   |some d=>
    simp only [St.newH]at hp;rw [Bool.cond_eq_ite]at hp;split at hp
    .rename_i hd;simp [St.wr,St.put,hd]
    .cases hp
 refine Exists.imp (fun v hh=>?_) (ad2 (ops:=ops) (r:=r) (ty:=ty) (pos:=pos) (af:=af) (gu:=gu) (K:=K) hT ht htx ⟨Nat.eq_of_beq_eq_true hz,fun e=>by simp [e]at hz0⟩ (by simp [hget]) (by simp) ⟨by simpa using hb,by simp;omega⟩ hp' ?_ hs1 hv hS)
 .obtain ⟨w',C',s',g1,g2,g3,g4⟩:=hh;exact ⟨w',C',s',g1,g2,h3.trans g3,g4⟩
 .refine s4 (s':=s1) (tX fun C w a hs=>?_) h;have hd:∀{n:Nat} {A B:HB} {H:List (Nat×HB)} (x:Nat),hget ((n,A)::(n,B)::H) x=hget ((n,A)::H) x:=fun x=>by
   simp only [hget];cases Nat.beq x _<;>rfl
  cases s with
  |mk env heap nx n lv=>
   have key:∀{E:List (Nat×V)},StRep C w a ⟨E,(nx,⟨sz,ys.map (c.enc l)⟩)::(nx,⟨sz,[]⟩)::heap,nx+1,n,lv⟩->StRep C w a ⟨E,(nx,⟨sz,ys.map (c.enc l)⟩)::heap,nx+1,n,lv⟩:=fun g=>by
    have H:=g.heap;exact ⟨g.defers,g.size,g.nx,g.env,⟨fun x hx=>H.dom x (by rw [hd];exact hx),fun x q hx=>H.ent x q (by rw [hd];exact hx),H.lt,H.inj,H.own,H.regs,H.lvs,H.rdis,H.zero,H.two,⟨fun x q L hx=>H.sub.dp x q L (by rw [hd];exact hx),H.sub.s0,H.sub.nd,H.sub.lt,H.sub.root,H.sub.dis,H.sub.reg⟩,H.tab⟩,g.lv⟩
   cases d with
   |none=>
    simp only [St.newH,Option.some.injEq]at hp;subst hp;exact key hs
   |some d=>
    simp only [St.newH]at hp;rw [Bool.cond_eq_ite]at hp;split at hp
    .simp only [Option.some.injEq]at hp;subst hp;exact key hs
    .cases hp
theorem aops_storeP {t:Nat}{y z:Operand}{ti:TI}{u n i off:Nat}{hb:HB}{row:List V}{x:V}{K:St->Prop}(hnd:dpc x=false)(hT:TabOK P T)
 (hg:gd ops.toList s gu=some true) (ht:T[t]? =some ti) (hy:ev s y=.ptr u n i off) (hu:hget s.heap u=some hb) (hn:n=hb.rows.length) (hrow:hb.rows[i]? =some row)
 (hone:∀ C w a,StRep C w a s->∀ v,Rep C w v x->v.cells=#[v]/\v.oneCell'=true) (hx:ev s z=x) (hsz:ti.size=1) (hoff:off+1<=row.length)
 (h:AOps P ops r (s.wr u ⟨hb.sz,hb.rows.set i (row.take off++[x]++row.drop (off+1))⟩) K):
 AOps P ops (⟨none,.store t y z,ty,pos,af,gu⟩::r) s K:=
 rT hg fun C w a hs=>by
  have hv:=hs.ev y;rw [hy]at hv;obtain ⟨L,b,hL,hLsz,hLn,hblk,hbb,hnz,he⟩:=kD hs.heap hv hu hn;obtain ⟨cells,el,fz,hheap,hcs,hle,hfz,hrep⟩:=fQ hbb hnz hblk;have hz1:=hs.ev z;rw [hx]at hz1;obtain ⟨hc1,hc2⟩:=hone C w a hs _ hz1;have hz:RepL C w (a.eval z).cells.toList [x]:=by rw [hc1];exact .cons hz1 .nil
  have hzl:=hz.length;have hin:=dD hheap hrep;obtain ⟨hin2,hbd⟩:=qK hcs hle hin hrow hz hoff;have hall:∀ v∈(a.eval z).cells.toList,v.oneCell'=true:=by rw [hc1];intro v hv;simp at hv;subst hv;exact hc2
  have hrun:=X4 (P:=P) b (i * hb.sz+off) el fz (a.eval z).cells.toList 0 cells w hheap hfz (by rw [hLsz]at hbd;simpa using hbd) hall;obtain ⟨S',hS',hdp⟩:=av2 hs.heap hu hL hbb hnz hheap hrow hzl hoff (by rw [List.all_cons,hnd];rfl);have hw:=HSt.write hs.heap hnz (w':=w.setRow b _) (rows:=hb.rows.set i (row.take off++[x]++row.drop (off+1))) hL hbb rfl rfl (oQ w b (cells.toList.take (i * L.sz+off)++(a.eval z).cells.toList++cells.toList.drop (i * L.sz+off+(a.eval z).cells.toList.length)).toArray) (fun c hc=>kQ w b c _ hc) (setRow_heap w b cells _ el fz hheap)
   (by simp at hbd |-;omega) (by
    have:((cells.toList.take (i * L.sz+off)++(a.eval z).cells.toList++cells.toList.drop (i * L.sz+off+(a.eval z).cells.toList.length)).toArray).size=cells.size:=by
     simp at hbd |-;omega
    rw [this];exact hfz) (by simpa using hle) (.inl (by simp [hLn])) (fun C' w' E=>hin2.mono E) S' hS' (hdp _)
  rw [hLsz]at hw;obtain ⟨C1,hn1,hl1,_,w1,w2,w3⟩:=hw;refine ⟨_,C1,s.wr u ⟨hb.sz,hb.rows.set i (row.take off++[x]++row.drop (off+1))⟩,?_,wr_rep ⟨hs.defers,hs.size,by rw [hn1];exact hs.nx,fun i=>(hs.env i).mono w2,w1,by rw [hl1];exact hs.lv⟩,w3,h⟩;have e:(a.eval z).cells.size=ti.size:=by rw [hsz,hc1];rfl
  simp only [Nat.add_zero]at hrun;simp [execOp,he,Instr.storeAt,Instr.sureAddr,storeVar,hT.size ht,e,hrun]
theorem cV {u i n sz:Nat}{rows:List (List V)}(hu:hget s.heap u=some ⟨sz,rows⟩)(hn:i+n=rows.length):∀ C w a,StRep C w a s->∀ v,Rep C w v (.hsl u i n)->v.cells=#[v]/\v.oneCell'=true:=fun C w a hs v hv=>by
 obtain⟨L,h1,h2,h3,h4,h5⟩:=aO hs.heap hv hu hn;unfold HSL at h5;split at h5
 .rw [h5.2];exact⟨rfl,rfl⟩
 .rw [h5];exact⟨rfl,rfl⟩
theorem V2 {t:Nat}{y z:Operand}{ti:TI}{u off sz:Nat}{row row':List V}{x:V}{K:St->Prop}{s':St}(hone:∀ C w a,StRep C w a s->∀ v,Rep C w v x->v.cells=#[v]/\v.oneCell'=true)(hT:TabOK P T)
 (hg:gd ops.toList s gu=some true) (ht:T[t]? =some ti) (hsz:Nat.beq ti.size 1=true) (hy:ev s y=.ptr u 1 0 off) (hu:hget s.heap u=some ⟨sz,[row]⟩)
 (hx:ev s z=x) (hnd:dpc x=false) (hput:putAt row off [x]=some row') (hs':s.wr u ⟨sz,[row']⟩=s') (h:AOps P ops r s' K):
 AOps P ops (⟨none,.store t y z,ty,pos,af,gu⟩::r) s K:=by
 obtain⟨p1,p2⟩:=eS hput;subst hs';refine aops_storeP (hb:=⟨sz,[row]⟩) hnd hT hg ht hy hu rfl rfl hone hx (Nat.eq_of_beq_eq_true hsz) p2 ?_;have:([row].set 0 (row.take off++[x]++row.drop (off+1)))=[row']:=by rw [p1];rfl
 rw [this];exact h
theorem FC.of_le_lent {f:FuncId}{args:List V}{h:List (Nat×HB)}{nx:Nat}{x:V}{Q:List (Nat×HB)->Prop}(hc:FC P f args h nx (fun y h2=>VLe y x/\Q h2)):FC P f args h nx (fun y h2=>y=x/\Q h2):=
 ⟨hc.1,fun C w cargs h1 h2 h3=>(hc.2 C w cargs h1 h2 h3).mono fun _ _ ⟨v,C',_,h',e1,e2,e3,e4,e5⟩=>⟨v,C',x,h',e1,e2,e5.1 _ _ _ e3,e4,rfl,e5.2⟩⟩
theorem K8 {rs:List ResultVar}{r x:V}{Q:List (Nat×HB)->Prop}(h:resV T s rs=some r)(hR:VLe r x)(hQ:Q s.heap):retK T rs (fun y h2=>VLe y x/\Q h2) .ret s:=⟨r,h,hR,hQ⟩
end
end Go.Abs

namespace Go.Abs
@[reducible] def ec : Cd PD where
 sz:=4
 enc:=PD.enc
 row:=PD.encX
 eq l x:=PD.enc_eq l x
 rl f l x:=PD.rlL_encX f l x
 len _ _:=rfl
 one s l x h:=by simp [PD.encX,oneV,St.live,h]
@[reducible] def dz : Cd ej where
 sz:=6
 enc:=ej.enc
 row:=ej.enc
 eq _ _:=rfl
 rl f l x:=ej.rl f l x
 len _ _:=rfl
 one s l x h:=by simp [ej.enc,oneV,St.live,h]
@[reducible] def ea : Cd ek where
 sz:=4
 enc:=ek.enc
 row:=ek.enc
 eq _ _:=rfl
 rl f l x:=ek.rl f l x
 len _ _:=rfl
 one s l x h:=by simp [ek.enc,oneV,St.live,h]
@[reducible] def ed : Cd eo where
 sz:=2
 enc:=eo.enc
 row:=eo.enc
 eq _ _:=rfl
 rl f l x:=eo.rl f l x
 len _ _:=rfl
 one s l x h:=by simp [eo.enc,oneV,St.live,h]
structure ep where
 name:List UInt8
 defines:List Int
 uses:List Int
 image:eo
 deriving Inhabited
def ep.enc (l:Nat)(o:ep):List V:=[.str o.name,.psl l 1 (o.defines.map (dy.enc l)),.psl l 1 (o.uses.map (dy.enc l)),.psl l 4 (o.image.codes.map (ek.enc l)),.int .i64 o.image.main]
theorem ep.rl (f:Nat->Nat)(l:Nat)(o:ep):V.rlL f (o.enc l)=o.enc (f l):=by
 have h1:=uD (f:=f) (sz:=1) (e:=dy.enc) (l:=l) (fun x=>dy.rl f l x) o.defines rfl;have h2:=uD (f:=f) (sz:=1) (e:=dy.enc) (l:=l) (fun x=>dy.rl f l x) o.uses rfl;have h3:=uD (f:=f) (sz:=4) (ek.rl f l) o.image.codes rfl;simp only [ep.enc,V.rlL,h1,h2,h3];simp only [V.rl]
@[reducible] def cObj : Cd ep where
 sz:=5
 enc:=ep.enc
 row:=ep.enc
 eq _ _:=rfl
 rl f l x:=ep.rl f l x
 len _ _:=rfl
 one s l x h:=by simp [ep.enc,oneV,St.live,h]
end Go.Abs

namespace Go.Abs
inductive PC where
 |mk (kind number:Int) (params:List Int) (datum:PD) (kids:List PC)
namespace PC
def kind:PC->Int|.mk k _ _ _ _=>k
def number:PC->Int|.mk _ n _ _ _=>n
def params:PC->List Int|.mk _ _ p _ _=>p
def datum:PC->PD|.mk _ _ _ d _=>d
def kids:PC->List PC|.mk _ _ _ _ ks=>ks
instance:Inhabited PC:=⟨.mk 0 0 [] default []⟩
mutual
def enc (l:Nat):PC->List V
 |.mk k n p d ks=>[.int .i64 k,.int .i64 n,.psl l 1 (p.map (dy.enc l)),.int .i64 d.kind,.int .i64 d.number,.str d.text,.psl l 4 (d.items.map (PD.enc l)),.psl l 8 (encs l ks)]
def encs (l:Nat):List PC->List (List V)
 | []=>[]
 |d::r=>enc l d::encs l r
end
theorem rW (l:Nat):∀ ds:List PC,encs l ds=ds.map (enc l)
 | []=>rfl
 |d::r=>by simp [encs,rW l r]
def encX (l:Nat)(c:PC):List V:=[.int .i64 c.kind,.int .i64 c.number,.psl l 1 (c.params.map (dy.enc l)),.int .i64 c.datum.kind,.int .i64 c.datum.number,.str c.datum.text,.psl l 4 (c.datum.items.map (PD.enc l)),.psl l 8 (c.kids.map (enc l))]
theorem enc_eq (l:Nat)(c:PC):c.enc l=c.encX l:=by cases c;simp [enc,encX,rW,kind,number,params,datum,kids]
mutual
theorem ai5 (f:Nat->Nat)(l:Nat):∀ c:PC,V.rlL f (enc l c)=enc (f l) c
 |.mk k n p d ks=>by
  have h1:=uD (f:=f) (sz:=1) (e:=dy.enc) (l:=l) (fun x=>dy.rl f l x) p rfl;have h2:=PD.rl_items f (l:=l) d.items rfl;simp only [enc,V.rlL,h1,h2];simp only [V.rl,sO f l ks]
theorem sO (f:Nat->Nat)(l:Nat):∀ cs:List PC,V.rlR f (encs l cs)=encs (f l) cs
 | []=>rfl
 |c::r=>by simp [encs,V.rlR,ai5 f l c,sO f l r]
end
theorem rlL_encX (f:Nat->Nat)(l:Nat)(c:PC):V.rlL f (c.encX l)=c.encX (f l):=by rw [<- enc_eq,ai5,enc_eq]
end PC
@[reducible] def eb : Cd PC where
 sz:=8
 enc:=PC.enc
 row:=PC.encX
 eq l x:=PC.enc_eq l x
 rl f l x:=PC.rlL_encX f l x
 len _ _:=rfl
 one s l x h:=by simp [PC.encX,oneV,St.live,h]
structure PUnit' where
 name:List UInt8
 globals:List Int
 body:PC
 deriving Inhabited
def PUnit'.enc (l:Nat)(u:PUnit'):List V:=.str u.name:: .psl l 1 (u.globals.map (dy.enc l))::PC.encX l u.body
theorem PUnit'.rl (f:Nat->Nat)(l:Nat)(u:PUnit'):V.rlL f (u.enc l)=u.enc (f l):=by
 have h1:=uD (f:=f) (sz:=1) (e:=dy.enc) (l:=l) (fun x=>dy.rl f l x) u.globals rfl;simp only [PUnit'.enc,V.rlL,h1,PC.rlL_encX];simp only [V.rl]
@[reducible] def cUnit : Cd PUnit' where
 sz:=10
 enc:=PUnit'.enc
 row:=PUnit'.enc
 eq _ _:=rfl
 rl f l x:=PUnit'.rl f l x
 len _ _:=rfl
 one s l x h:=by simp [PUnit'.enc,PC.encX,oneV,St.live,h]
end Go.Abs

namespace Go.Abs
theorem dec_zero {P:Program}{t:TypeId}{X:Type}{W:X->Prop}{e:X->List V}:Dec P 0 t W e:=fun H enc C w sp held fuel cs d _ hf h=>by
 have:fuel=0:=by omega
 subst this;cases h
theorem dec_sl {P:Program}{N:Nat}{t e:TypeId}{α:Type}{W:α->Prop}(c:Cd α)(ht:P.underlying t=some (.slice e))(hs:P.cellsOf e=c.sz)(hpos:Nat.blt 0 c.sz=true)(he:Dec P (N-1) e W (fun x=>c.row 0 x)):
 Dec P N t (fun xs:List α=>xs.length<=9223372036854775807/\∀ x∈xs,W x) (fun xs=>[.psl 0 c.sz (xs.map (c.enc 0))]):=
 (dec_slice ht hs (by simpa using hpos) he).map (fun x=>x) (fun _ h=>h) (fun x=>by rw [c.map_eq])
end Go.Abs
