
import Derived.Test.YtllbdfllngpkaaaGreatLibA
import Derived.Deep.Quiet
import Derived.ProofKit
set_option linter.all false
namespace Go.Abs
def OpVal (P:Program)(s:St)(o:Op)(x:V):Prop:=
 ∀ C w a,StRep C w a s->∀(d:Option Nat) (ty:Nat) (pos:String) (af:Array Edge) (gu:Option (Nat×Bool)),∃ v,(∀ w',Agree w w'->(execOp a.eval ⟨d,o,ty,pos,af,gu⟩).run P w'=.ok (.value v) w')/\Rep C w v x
section
variable {P:Program} {T:List TI} {s:St} {ops:Array Oper} {d:Option Nat} {ty:Nat} {pos:String} {af:Array Edge} {gu:Option (Nat×Bool)} {r:List Oper} {K:St->Prop} {s1:St}
theorem vC {C:Ctx}{w w':World}{h:List (Nat×HB)}(hs:HSt C w h)(A:Agree w w'):Ext C C w w':=
 ⟨Nat.le_refl _,fun _ L _ h=>⟨L,h,.inl rfl⟩,fun _ _ h=>h,fun l b _ hl hb=>⟨hb,A.2 b (hs.regs l b hl hb)⟩⟩
theorem lQ {C:Ctx}{w w':World}{a:Act}(hs:StRep C w a s)(A:Agree w w'):StRep C w' a s:=by
 have E:=vC hs.heap A;refine ⟨hs.defers,hs.size,hs.nx,fun i=>(hs.env i).mono E,⟨hs.heap.dom,fun u hb hu=>?_,hs.heap.lt,hs.heap.inj,hs.heap.own,fun l b h1 h2=>Nat.lt_of_lt_of_le (hs.heap.regs l b h1 h2) A.1,hs.heap.lvs,hs.heap.rdis,hs.heap.zero,hs.heap.two,
  hs.heap.sub.step (fun u=>.inl rfl) hs.heap.sub.s0 A.1 (fun u L b h1 h2=>.inl ⟨u,L,h1,h2⟩) (fun l b h1 h2=>.inl ⟨h1,h2⟩) (fun u hb L hu h1=>hs.heap.sub.old hu h1 (fun b hb=>A.2 b (hs.heap.rootlt h1 hb)) (fun b hb=>A.2 b (hs.heap.sub.lt u b hb))),hs.heap.tabE E hs.heap.zero.1⟩,hs.lv⟩
 obtain⟨L,e1,e2,e3,e4⟩:=hs.heap.ent u hb hu;exact ⟨L,e1,e2,e3,e4.mono E (fun b hb=>A.2 b (jY e4 hb))⟩
theorem rS {C:Ctx}{w w':World}(A:Agree w w'):Fr C C w w':=
 ⟨A.1,fun b hb _=>A.2 b hb,fun _ h=>.inl h,fun _ h=>h,fun _ h=>.inl h,A.os,A.out,fun _ _ L h=>⟨L,h,.inl rfl⟩⟩
theorem sv {o:Op}{x:V}(hg:gd ops.toList s gu=some true)(hx:OpVal P s o x)(hp:s.put d x=some s1)(h:AOps P ops r s1 K):AOps P ops (⟨d,o,ty,pos,af,gu⟩::r) s K:=
 s_val hg (fun C w a hs=>by
  obtain⟨v,h1,h2⟩:=hx C w a hs d ty pos af gu;exact ⟨v,h1 w (Agree.refl w),h2⟩) hp h
theorem uA {o:Op}{x:V}(hT:TabOK P T)(h:pstep T s o=some x):OpVal P s o x:=fun C w a hs d ty pos af gu=>
 uB (o:=⟨d,o,ty,pos,af,gu⟩) hT hs h
theorem ov_sub {t t':Nat}{x y:Operand}{a b:Int}(hT:TabOK P T)(hx:ev s x=.int .i64 a)(hy:ev s y=.int .i64 b)(hb: -9223372036854775808<=a-b/\a-b<=9223372036854775807):OpVal P s (.binOp .sub t x y t') (.int .i64 (a-b)):=
 uA (T:=T) hT (by simp only [pstep,hx,hy,pbin,rQ hb,↓reduceIte])
theorem ov_byte {t:Nat}{x i:Operand}{l:List UInt8}{k:IntKind}{n:Int}(hT:TabOK P T)(ht:strT T t=true)(hx:ev s x=.str l)(hi:ev s i=.int k n)(h0:0<=n/\n<l.length):
 OpVal P s (.index t x i) (.int .u8 (l.getD n.toNat 0).toNat):=fun C w a hs d ty pos af gu=>by
 have hv:=hs.ev x;rw [hx]at hv;have hv2:=hs.ev i;rw [hi]at hv2;generalize e1:a.eval x=v at hv;generalize e2:a.eval i=v2 at hv2;cases hv;cases hv2;refine ⟨.int .u8 (l.getD n.toNat 0).toNat,fun w' _=>?_,.int _ _⟩;have hlt:n.toNat<l.length:=by omega
 have hg':(⟨l.toArray⟩:ByteArray)[n.toNat]? =some (l.getD n.toNat 0):=by
  have e:(⟨l.toArray⟩:ByteArray).size=l.length:=lR l;rw [getElem?_pos (⟨l.toArray⟩:ByteArray) n.toNat (by rw [e];exact hlt)];rw [show l.getD n.toNat 0=l[n.toNat]from by simp [List.getD,List.getElem?_eq_getElem hlt]];rfl
 simp [execOp,e1,e2,Instr.index,asIntOf,run_underlying (strT_spec hT ht),h0.1,hg']
theorem ov_addr {t e sz l:Nat}{x i:Operand}{rows:List (List V)}{row:List V}{k:IntKind}{n:Int}(hT:TabOK P T)(ht:elemT T t=some (e,sz))(hx:ev s x=.psl l sz rows)(hl:s.live l=true)(hi:ev s i=.int k n)
 (h0:0<=n) (hr:rows[n.toNat]? =some row):OpVal P s (.indexAddr t x i) (.pptr l sz [row] 0 0):=fun C w a hs d ty pos af gu=>by
 have hv:=hs.ev x;rw [hx]at hv;have hv2:=hs.ev i;rw [hi]at hv2;generalize e1:a.eval x=v at hv;generalize e2:a.eval i=v2 at hv2;cases hv2;obtain ⟨hu,te,hte,hsz⟩:=rV hT ht;cases hv with
 |psl0=>simp at hr
 |psld _ h1 _=>exact absurd (hs.live hl) h1
 |psl vals h1 h2 h3 h4 hcap h5 h6=>
  rename_i b off len cap;have hlt:n.toNat<rows.length:=by
   rcases Nat.lt_or_ge n.toNat rows.length with h|h
   .exact h
   .simp [List.getElem?_eq_none h]at hr
  have hin:n<(len:Int):=by omega
  refine⟨.pointer (some ⟨b,off+n.toNat * sz+0 * sz+0,none⟩),fun w' _=>?_,.pptr (o:=off+n.toNat * sz) (fun _=>vals n.toNat) h1 h2 h3 (fun j r' hj=>?_) (fun j r' hj=>?_)⟩
  .simp [execOp,e1,e2,Instr.indexAt,asIntOf,run_underlying hu,h0,hin,hT.size hte,hsz,cG]
  .cases j with
   |zero=>
    simp at hj;subst hj;refine ⟨(h5 _ _ hr).1,fun j v hj=>?_⟩;rw [Nat.zero_mul,Nat.add_zero];exact (h5 _ _ hr).2 j v hj
   |succ j=>simp at hj
  .cases j with
   |zero=>simp at hj;subst hj;exact h6 _ _ hr
   |succ j=>simp at hj
theorem aO {C:Ctx}{w:World}{h:List (Nat×HB)}(hs:HSt C w h){u i len:Nat}{v:Value}(hr:Rep C w v (.hsl u i len)){hb:HB}(hu:hget h u=some hb)(hn:i+len=hb.rows.length):
 ∃ L,C.loc u=some L/\L.sz=hb.sz/\L.n=hb.rows.length/\Blk C w L hb.rows/\HSL L i len v:=by
 obtain⟨L,h1,h2,h3,h4⟩:=hs.ent u hb hu;cases hr with
 |hsl _ h=>exact⟨L,h1,h2,h3,h4,(h L h1).2 (by omega)⟩
theorem ov_hlen {t u i len:Nat}{x:Operand}{hb:HB}{e sz:Nat}(hT:TabOK P T)(ht:elemT T t=some (e,sz))(hx:ev s x=.hsl u i len)(hu:hget s.heap u=some hb)(hn:i+len=hb.rows.length):
 OpVal P s (.call ⟨.builtin .len,⟨[x]⟩,⟨[t]⟩⟩) (.int .i64 len):=fun C w a hs d ty pos af gu=>by
 have hv:=hs.ev x;rw [hx]at hv;obtain ⟨L,h1,h2,h3,h4,h5⟩:=aO hs.heap hv hu hn;obtain ⟨hut,te,hte,hsz⟩:=rV hT ht;refine ⟨.int .i64 len,fun w' _=>?_,.int _ _⟩;unfold HSL at h5;cases hb':L.blk with
 |some b=>
  rw [hb']at h5;simp only at h5;simp [execOp,resolve,invoke,builtin,Builtin.len_,h5.2,run_underlying hut,goInt]
 |none=>
  rw [hb']at h5;simp only at h5;have:len=0:=by
   unfold Blk at h4;rw [hb']at h4;rw [h4.1]at hn;simp at hn;exact hn.2
  subst this;simp [execOp,resolve,invoke,builtin,Builtin.len_,h5,run_underlying hut,goInt]
theorem ov_haddr {t u i0 len:Nat}{x i:Operand}{hb:HB}{e:Nat}{k:IntKind}{n:Int}(hT:TabOK P T)(ht:elemT T t=some (e,hb.sz))(hx:ev s x=.hsl u i0 len)(hu:hget s.heap u=some hb)(hn:i0+len=hb.rows.length)(hi:ev s i=.int k n)
 (h0:0<=n/\n<len):OpVal P s (.indexAddr t x i) (.ptr u hb.rows.length (i0+n.toNat) 0):=fun C w a hs d ty pos af gu=>by
 have hv:=hs.ev x;rw [hx]at hv;have hv2:=hs.ev i;rw [hi]at hv2;generalize e2:a.eval i=v2 at hv2;cases hv2;obtain ⟨L,h1,h2,h3,h4,h5⟩:=aO hs.heap hv hu hn;obtain ⟨hut,te,hte,hsz⟩:=rV hT ht;unfold HSL at h5;cases hb':L.blk with
 |some b=>
  rw [hb']at h5;simp only at h5;refine ⟨.pointer (some ⟨b,(i0+n.toNat) * hb.sz+0,none⟩),fun w' _=>?_,.ptr (by rw [hs.nx];have:=hs.heap.lt u L h1;rw [hs.nx]at this;exact this) fun L' hL'=>?_⟩
  .simp [execOp,h5.2,e2,Instr.indexAt,asIntOf,run_underlying hut,h0,hT.size hte,hsz,cG,h2,Nat.add_mul]
  .rw [h1]at hL';simp only [Option.some.injEq]at hL';subst hL';exact ⟨by omega,fun _=>⟨b,hb',h5.1,by rw [h2]⟩⟩
 |none=>
  unfold Blk at h4;rw [hb']at h4;rw [h4.1]at hn;simp at hn;omega
theorem callee_args {C:Ctx}{w:World}{a:Act}{args:List Operand}{args':List V}(hs:StRep C w a s)(hv:V.rlL (f0 s) (evL s args)=args'):RepL (C.callee (·<w.heap.size)) w (args.map a.eval) args':=by
 rw [<- hv];refine RepL.rl (C:=C) ⟨fun l _=>?_,fun l _ hl=>?_,fun l b _ hl hb=>⟨?_,rfl⟩⟩ (nM hs args)
 .show f0 s l<12;unfold f0;cases s.live l<;>decide
 .cases hlv:s.live l
  .simp only [f0,hlv,cond_false]at hl;exact absurd hl (by show ¬ 2<=1;omega)
  .exact hs.live hlv
 .cases hlv:s.live l
  .simp only [f0,hlv,cond_false]at hl;exact absurd hl (by show ¬ 2<=1;omega)
  .exact ⟨by simp [f0,hlv],hs.heap.regs l b (hs.live hlv) hb⟩
end
end Go.Abs

namespace Go.Abs
section
variable {P:Program} {T:List TI} {C:Ctx} {w:World} {h:List (Nat×HB)}
theorem loc_lt (hs:HSt C w h){u:Nat}{L:Loc}{b:Nat}(h1:C.loc u=some L)(h2:L.blk=some b):b<w.heap.size:=by
 cases hg:hget h u with
 |none=>rw [hs.dom u hg]at h1;simp at h1
 |some hb=>obtain⟨L2,e1,_,_,e4⟩:=hs.ent u hb hg;rw [h1]at e1;simp at e1;subst e1;exact jY e4 h2
theorem HSt.regrow (hs:HSt C w h){u:Nat}{L:Loc}{cs:Array Value}{el:TypeId}{cap:Nat}{rows:List (List V)}(hnz:L.sz≠0)(hL:C.loc u=some L)(hgt:L.n<rows.length)(hcs:cs.size=cap * L.sz)(hle:rows.length<=cap)(hin:RowsIn C w cs L.sz rows)(hdeep:(∀ c∈C.sub u,(w.alloc (.cells cs el)).heap[c]? =w.heap[c]?)->TopR (w.alloc (.cells cs el)) cs.toList L.sz rows (C.sub u)):
 HSt (C.set u ⟨some w.heap.size,L.sz,rows.length,cap⟩ C.nx) (w.alloc (.cells cs el)) ((u,⟨L.sz,rows⟩)::h)/\Fr C (C.set u ⟨some w.heap.size,L.sz,rows.length,cap⟩ C.nx) w (w.alloc (.cells cs el))/\
  Ext C (C.set u ⟨some w.heap.size,L.sz,rows.length,cap⟩ C.nx) w (w.alloc (.cells cs el)):=by
 have hold:∀ b,b<w.heap.size->(w.alloc (.cells cs el)).heap[b]? =w.heap[b]? :=(nK w _).2;have E:Ext C (C.set u ⟨some w.heap.size,L.sz,rows.length,cap⟩ C.nx) w (w.alloc (.cells cs el)):=by
  refine⟨Nat.le_refl _,fun x L' hx h'=>?_,fun l _ h=>h,fun l c _ hl hc=>⟨hc,hold c (hs.regs l c hl hc)⟩⟩;simp only [Ctx.set]at h';split at h'
  .rename_i hxu;subst hxu;simp only [Option.some.injEq]at h';subst h';exact ⟨L,hL,.inr hgt⟩
  .exact ⟨L',h',.inl rfl⟩
 refine⟨⟨fun x hx=>?_,fun x hbk hx=>?_,fun x M hM=>?_,fun x x' M M' c h1 h2 h3 h4=>?_,fun x M c l h1 h2 h3 h4=>?_,fun l c h1 h2=>?_,hs.lvs,hs.rdis,hs.zero,hs.two,?_,hs.tabE E hs.zero.1⟩,?_,E⟩
 .simp only [hget]at hx;rw [Bool.cond_eq_ite]at hx;split at hx
  .simp at hx
  .rename_i hne;rw [Nat.beq_eq]at hne;simp only [Ctx.set];rw [if_neg hne];exact hs.dom x hx
 .simp only [hget]at hx;rw [Bool.cond_eq_ite]at hx;split at hx
  .rename_i he;rw [Nat.beq_eq]at he;simp only [Option.some.injEq]at hx;subst hx;subst he;have hb:(w.alloc (.cells cs el)).heap[w.heap.size]? =some (.cells cs el (0,0)):=by simp only [World.alloc,Array.getElem?_push_size]
   exact⟨⟨some w.heap.size,L.sz,rows.length,cap⟩,by simp [Ctx.set],rfl,rfl,ad4 rfl hnz ⟨cs,el,(0,0),hb,hcs,hle,fun o _=>by simp,mJ hb (hin.mono E)⟩⟩
  .rename_i hne;rw [Nat.beq_eq]at hne;obtain ⟨M,h1,h2,h3,h4⟩:=hs.ent x hbk hx;exact ⟨M,by simp [Ctx.set,hne,h1],h2,h3,h4.mono E (fun c hc=>hold c (jY h4 hc))⟩
 .simp only [Ctx.set]at hM |-;split at hM
  .rename_i hxu;subst hxu;exact hs.lt _ L hL
  .exact hs.lt x M hM
 .simp only [Ctx.set]at h1 h2;split at h1<;>split at h2
  .omega
  .simp only [Option.some.injEq]at h1;subst h1;simp at h3;have:=loc_lt hs h2 h4;omega
  .simp only [Option.some.injEq]at h2;subst h2;simp at h4;have:=loc_lt hs h1 h3;omega
  .exact hs.inj x x' M M' c h1 h2 h3 h4
 .simp only [Ctx.set]at h1 h3 h4;split at h1
  .simp only [Option.some.injEq]at h1;subst h1;simp at h2;have:=hs.regs l c h3 h4;omega
  .exact hs.own x M c l h1 h2 h3 h4
 .have:=hs.regs l c h1 h2;simp;omega
 .refine hs.sub.step (fun u=>.inl rfl) (fun x hx=>?_) (by simp) (fun x M b h1 h2=>?_) (fun l b h1 h2=>.inl ⟨h1,h2⟩) (fun x hb M hx h1=>?_)
  .simp only [Ctx.set]at hx;split at hx
   .cases hx
   .exact hs.sub.s0 x hx
  .simp only [Ctx.set]at h1;split at h1
   .simp only [Option.some.injEq]at h1;subst h1;simp at h2;exact .inr (by omega)
   .exact .inl ⟨x,M,h1,h2⟩
  .simp only [hget]at hx;rw [Bool.cond_eq_ite]at hx;simp only [Ctx.set]at h1 |-;split at hx
   .rename_i he;rw [Nat.beq_eq]at he;subst he;simp only [Option.some.injEq]at hx;subst hx;rw [if_pos rfl]at h1;simp only [Option.some.injEq]at h1;subst h1;have hb:(w.alloc (.cells cs el)).heap[w.heap.size]? =some (.cells cs el (0,0)):=by simp only [World.alloc,Array.getElem?_push_size]
    exact pS rfl hnz ⟨cs,el,(0,0),hb,hdeep fun c hc=>hold c (hs.sub.lt _ c hc)⟩
   .rename_i hne;rw [Nat.beq_eq]at hne;rw [if_neg hne]at h1;exact hs.sub.old hx h1 (fun b hb=>hold b (hs.rootlt h1 hb)) (fun b hb=>hold b (hs.sub.lt x b hb))
 .refine ⟨by simp,fun c hc _=>hold c hc,fun c ho=>?_,fun c hc=>hc,fun c hc=>.inl hc,rfl,rfl,fun x _ L' h'=>?_⟩
  .rcases ho with ⟨x,M,h1,h2⟩|hc
   .simp only [Ctx.set]at h1;split at h1
    .simp only [Option.some.injEq]at h1;subst h1;simp at h2;exact .inr (by omega)
    .exact .inl (.inl ⟨x,M,h1,h2⟩)
   .exact .inl (.inr hc)
  .simp only [Ctx.set]at h';split at h'
   .rename_i hxu;subst hxu;simp only [Option.some.injEq]at h';subst h';exact ⟨L,hL,.inr hgt⟩
   .exact ⟨L',h',.inl rfl⟩
theorem aa7 {zs:List Value}{row:List V}(hz:RepL C w zs row)(n:Nat):RowsIn C w ((Array.range (n * row.length)).map (fun i=>(⟨zs⟩:Array Value)[i % (⟨zs⟩:Array Value).size]!)) row.length (List.replicate n row):=by
 refine⟨fun _=>zs,fun i r hi=>?_⟩;rw [List.getElem?_replicate]at hi;split at hi
 .rename_i hin;simp only [Option.some.injEq]at hi;subst hi;refine ⟨hz.length,fun j v hj=>?_,hz⟩;have hjl:j<zs.length:=by
   rcases Nat.lt_or_ge j zs.length with h|h
   .exact h
   .simp [List.getElem?_eq_none h]at hj
  have hzl:=hz.length;have hlt:i * row.length+j<n * row.length:=by
   have:(i+1) * row.length<=n * row.length:=Nat.mul_le_mul_right _ hin;rw [Nat.succ_mul]at this;omega
  have hmod:(i * row.length+j) % zs.length=j:=by
   rw [hzl,Nat.mul_comm,Nat.mul_add_mod];exact Nat.mod_eq_of_lt (by omega)
  simp [Array.getElem?_map,Array.getElem?_range,hlt,hmod];rw [List.getElem?_eq_getElem hjl]at hj;simp only [Option.some.injEq]at hj;rw [<- hj];simp [hjl]
 .simp at hi
theorem oF {cs ds:List Value}{sz:Nat}{rows ys:List (List V)}(h1:RowsIn C w ⟨cs⟩ sz rows)(hl:cs.length=rows.length * sz)(h2:RowsIn C w ⟨ds⟩ sz ys)(rest:List Value):RowsIn C w ⟨cs++ds++rest⟩ sz (rows++ys):=by
 obtain⟨v1,a1⟩:=h1;obtain ⟨v2,a2⟩:=h2;refine ⟨fun i=>if i<rows.length then v1 i else v2 (i-rows.length),fun i row hi=>?_⟩;by_cases hlt:i<rows.length
 .rw [List.getElem?_append_left hlt]at hi;simp only [if_pos hlt];obtain ⟨b1,b2,b3⟩:=a1 i row hi;refine ⟨b1,fun j v hj=>?_,b3⟩;have:=b2 j v hj;simp only [List.getElem?_toArray]at this |-;rw [List.append_assoc,List.getElem?_append_left]
  .exact this
  .rcases Nat.lt_or_ge (i * sz+j) cs.length with h|h
   .exact h
   .simp [List.getElem?_eq_none h]at this
 .rw [List.getElem?_append_right (by omega)]at hi;simp only [if_neg hlt];obtain ⟨b1,b2,b3⟩:=a2 _ row hi;refine ⟨b1,fun j v hj=>?_,b3⟩;have:=b2 j v hj;simp only [List.getElem?_toArray]at this |-;have e:i * sz+j=cs.length+((i-rows.length) * sz+j):=by
   rw [hl,<- Nat.add_assoc,<- Nat.add_mul];congr 2;omega
  rw [List.append_assoc,e,List.getElem?_append_right (by omega),Nat.add_sub_cancel_left,List.getElem?_append_left]
  .exact this
  .rcases Nat.lt_or_ge ((i-rows.length) * sz+j) ds.length with h|h
   .exact h
   .simp [List.getElem?_eq_none h]at this
end
end Go.Abs

namespace Go.Abs
section
variable {P:Program} {T:List TI} {s:St} {ops:Array Oper} {d:Option Nat} {ty:Nat} {pos:String} {af:Array Edge} {gu:Option (Nat×Bool)} {r:List Oper} {K:St->Prop} {s1:St}
def elemI (T:List TI)(t:Nat):Option (Nat×TI):=match T[t]? with
 |some ti=>(match ti.kind with
  |.slice e=>(match T[e]? with |some te=>some (e,te)|none=>none)
  |_=>none)
 |none=>none
theorem gR {t e:Nat}{te:TI}(hT:TabOK P T)(h:elemI T t=some (e,te)):P.underlying t=some (.slice e)/\T[e]? =some te:=by
 unfold elemI at h;split at h
 .rename_i ti ht;split at h
  .rename_i e' hk;split at h
   .rename_i te' hte;simp only [Option.some.injEq,Prod.mk.injEq]at h;obtain ⟨rfl,rfl⟩:=h;exact ⟨hT.slice ht hk,hte⟩
   .simp at h
  .simp at h
 .simp at h
theorem ai3 {C:Ctx}{w1:World}{b sz n cap u:Nat}(hnz:sz≠0)(h1:∀ L,C.loc u=some L->L=⟨some b,sz,n,cap⟩)(h2:u<C.nx):Rep C w1 (.slice (some ⟨b,0,none⟩) n cap) (.hsl u 0 n):=
 .hsl h2 fun L hL=>by
  have:=h1 L hL;subst this;exact ⟨by simp,fun _=>by simp [HSL,hnz]⟩
theorem flat_rep {row:List V}(h:row.all (fun x=>!dpc x)=true)(n:Nat):flatR (List.replicate n row)=true:=by
 unfold flatR;rw [List.all_eq_true];intro r hr;rw [List.eq_of_mem_replicate hr];exact h
theorem s_make {t e:Nat}{kd:TK}{sz bts:Nat}{z0:List V}{ag:Bool}{x y:Operand}{n:Int}(hT:TabOK P T)(hg:gd ops.toList s gu=some true)(ht:elemI T t=some (e,⟨kd,sz,bts,z0,ag⟩))(hx:ev s x=.int .i64 n)(hy:ev s y=.int .i64 n)
 (hz:z0.length=sz/\sz≠0) (h0:0<=n/\bts * n<=281474976710656/\n<=281474976710656)
 (hp:s.newH sz (List.replicate n.toNat z0) n.toNat d=some s1) (h:AOps P ops r s1 K):
 AOps P ops (⟨d,.makeSlice t x y,ty,pos,af,gu⟩::r) s K:=
 ab8 (cap:=n.toNat) (rows:=List.replicate n.toNat z0) (sz:=sz) (flat_rep (xW hT (gR hT ht).2 (by obtain⟨h1,h2⟩:=hz;cases z0 with |nil=>exact absurd h1.symm h2|cons _ _=>rfl)) _) hz.2 hg (fun C w a hs=>by
  have hv:=hs.ev x;rw [hx]at hv;have hv2:=hs.ev y;rw [hy]at hv2;generalize e1:a.eval x=v at hv;generalize e2:a.eval y=v2 at hv2;cases hv;cases hv2;obtain ⟨hu,hte⟩:=gR hT ht;obtain ⟨j,hj,hjs,hjb⟩:=hT.tinfo hte;obtain ⟨z,hz1,hz2⟩:=hT.zero hte (by intro e;dsimp only at e;rw [e]at hz;simp at hz;omega);dsimp only at hjs hjb hz2;have hzl:z.cells.size=sz:=by rw [<- hz.1,<- hz2];simp
  have hw:IntKind.i64.wrap n=n:=rQ (by omega);have hbig:¬ (bts:Int) * n>2 ^ 48:=by
   have:(2:Int) ^ 48=281474976710656:=by decide
   omega
  have hno:((decide (n<0)||decide ((j.bytes:Int) * n>2 ^ 48))||decide (n<0)||decide (n>n))=false:=by
   rw [hjb];simp only [hbig,decide_false,Bool.or_false,Bool.or_eq_false_iff,decide_eq_false_iff_not];omega
  refine⟨.slice (some ⟨w.heap.size,0,none⟩) n.toNat n.toNat,(Array.range (n.toNat * sz)).map ((if n.toNat * sz=0 then #[]else z.cells)[· % (if n.toNat * sz=0 then #[]else z.cells).size]!),e,?_,by simp,by simp,?_,fun C' h1 h2=>ai3 hz.2 (by simpa using h1) h2⟩
  .simp only [execOp,e1,e2,Instr.makeSlice,run_underlying hu,asInt,asIntOf,Sem.run_bind,Sem.run_pure,Result.andThen_ok,hj,hw,hno,Bool.false_eq_true,if_false,run_askRoom,hT.size hte,newRow,run_newObj];by_cases hn:n.toNat * sz=0
   .simp [hn]
   .simp [hn,hz1]
  .by_cases hn:n.toNat * sz=0
   .have:n.toNat=0:=by
     rcases Nat.mul_eq_zero.1 hn with h|h
     .exact h
     .exact absurd h hz.2
    rw [this];exact ⟨fun _=>[],fun i row hi=>by simp at hi⟩
   .rw [if_neg hn];have hrep:=sL C w z.cells.toList;rw [hz2]at hrep;have:=aa7 hrep n.toNat;rw [hz.1]at this;exact this) (by rw [<- newH_eq];exact hp) h
def hdel (u:Nat):List (Nat×HB)->List (Nat×HB)
 | []=>[]
 |(j,v)::r=>bif Nat.beq u j then hdel u r else(j,v)::hdel u r
theorem O0 (u:Nat):∀(h:List (Nat×HB)) (x:Nat),hget (hdel u h) x=if x=u then none else hget h x
 | [],x=>by simp [hdel,hget]
 |(j,v)::r,x=>by
  simp only [hdel];rw [Bool.cond_eq_ite];split
  .rename_i huj;rw [Nat.beq_eq]at huj;subst huj;rw [O0 u r x];by_cases hx:x=u
   .rw [if_pos hx,if_pos hx]
   .rw [if_neg hx,if_neg hx];simp only [hget];rw [Bool.cond_eq_ite,if_neg (by simp [hx])]
  .rename_i huj;have huj':u≠j:=fun e=>huj (by subst e;simp);simp only [hget,Bool.cond_eq_ite,O0 u r x];by_cases hx:x=j
   .have:x≠u:=fun e=>huj' (e ▸ hx);simp [hx,huj'.symm]
   .have:¬ (x.beq j=true):=by rw [Nat.beq_eq];exact hx
    rw [if_neg this,if_neg this]
def St.frz:St->Nat->Nat->Nat->List (List V)->St
 |⟨env,heap,nx,n,lv⟩,i,u,sz,rows=>⟨(i,.psl 1 sz rows)::env,hdel u heap,nx,n,lv⟩
theorem frz_rep {C:Ctx}{w:World}{a:Act}{i u n:Nat}{hb:HB}(hs:StRep C w a s)(hv:eget s.env i=.hsl u 0 n)(hu:hget s.heap u=some hb)(hn:n=hb.rows.length):
 ∃ C',StRep C' w a (s.frz i u hb.sz hb.rows)/\Fr C C' w w:=by
 have hrep:=hs.env i;rw [hv]at hrep;obtain ⟨L,h1,h2,h3,h4,h5⟩:=aO hs.heap hrep hu (by omega)
 let C':Ctx:={ reg:=fun l b=>C.reg l b\/(l=1/\L.blk=some b),lv:=C.lv,loc:=fun x=>if x=u then none else C.loc x,nx:=C.nx,sub:=fun x=>if x=u then []else C.sub x }
 have hloc:∀ x M,C'.loc x=some M->x≠u/\C.loc x=some M:=fun x M h=>by
  simp only [C']at h;split at h
  .simp at h
  .exact ⟨by assumption,h⟩
 have E:Ext C C' w w:=by
  refine⟨Nat.le_refl _,fun x M _ h=>⟨M,(hloc x M h).2,.inl rfl⟩,fun _ _ h=>h,fun l b _ _ hb=>⟨.inl hb,rfl⟩⟩
 have hsf:s.frz i u hb.sz hb.rows=⟨(i,.psl 1 hb.sz hb.rows)::s.env,hdel u s.heap,s.nx,s.n,s.lv⟩:=by cases s;rfl
 have h1nx:1<C.nx:=by have:=hs.heap.two;omega
 refine⟨C',?_,?_⟩
 .rw [hsf];refine ⟨hs.defers,hs.size,hs.nx,fun j=>?_,⟨fun x hx=>?_,fun x hbk hx=>?_,fun x M hM=>hs.heap.lt x M (hloc x M hM).2,fun x x' M M' c g1 g2=>hs.heap.inj x x' M M' c (hloc x M g1).2 (hloc x' M' g2).2,fun x M c l g1 g2 g3 g4=>?_,fun l c g1 g2=>?_,hs.heap.lvs,fun l l' c g1 g2 g3 g4=>?_,hs.heap.zero,hs.heap.two,?_,hs.heap.tabE E hs.heap.zero.1⟩,hs.lv⟩
  .simp only [eget];rw [Bool.cond_eq_ite];split
   .rename_i hj;rw [Nat.beq_eq]at hj;subst hj;unfold HSL at h5;cases hb':L.blk with
    |none=>
     rw [hb']at h5;simp only at h5;unfold Blk at h4;rw [hb']at h4;rw [h5,h4.1];exact .psl0 _ _ _ _
    |some b=>
     rw [hb']at h5;simp only at h5;obtain ⟨cs,el,fz,q1,q2,q3,q4,vals,q5⟩:=fQ hb' h5.1 h4;rw [h5.2,Nat.zero_mul];refine .psl (off:=0) vals hs.heap.zero.2.1 h1nx (.inr ⟨rfl,hb'⟩) hn (by subst hn;simpa using q3) (fun k row hk=>?_) (fun k row hk=>RepL.mono E (q5 k row hk).2.2);rw [<- h2];exact ⟨(q5 k row hk).1,(q5 k row hk).2.1⟩
   .exact (hs.env j).mono E
  .rw [O0]at hx;simp only [C'];split
   .rfl
   .rename_i hne;rw [if_neg hne]at hx;exact hs.heap.dom x hx
  .rw [O0]at hx;split at hx
   .simp at hx
   .rename_i hne;obtain ⟨M,g1,g2,g3,g4⟩:=hs.heap.ent x hbk hx;exact ⟨M,by simp [C',hne,g1],g2,g3,g4.mono E (fun _ _=>rfl)⟩
  .obtain ⟨g5,g6⟩:=hloc x M g1;rcases g4 with g4|⟨_,g4⟩
   .exact hs.heap.own x M c l g6 g2 g3 g4
   .exact g5 (hs.heap.inj x u M L c g6 h1 g2 g4)
  .rcases g2 with g2|⟨_,g2⟩
   .exact hs.heap.regs l c g1 g2
   .exact jY h4 g2
  .rcases g3 with g3|⟨e3,g3⟩<;>rcases g4 with g4|⟨e4,g4⟩
   .exact hs.heap.rdis l l' c g1 g2 g3 g4
   .exact absurd g3 (hs.heap.own u L c l h1 g4 g1)
   .exact absurd g4 (hs.heap.own u L c l' h1 g3 g2)
   .rw [e3,e4]
  .refine hs.heap.sub.step (fun x=>?_) (fun x hx=>?_) (Nat.le_refl _) (fun x M b h1 h2=>.inl ⟨x,M,(hloc x M h1).2,h2⟩) (fun l b h1 h2=>?_) (fun x hb M hx h1=>?_)
   .simp only [C'];split
    .exact .inr rfl
    .exact .inl rfl
   .simp only [C']at hx |-;split at hx
    .rename_i e;rw [if_pos e]
    .rename_i e;rw [if_neg e];exact hs.heap.sub.s0 x hx
   .rcases h2 with h2|⟨_,h2⟩
    .exact .inl ⟨h1,h2⟩
    .exact .inr (.inl ⟨u,L,by assumption,h2⟩)
   .rw [O0]at hx;split at hx
    .cases hx
    .rename_i hne;obtain ⟨g1,g2⟩:=hloc x M h1;simp only [C'];rw [if_neg hne];exact hs.heap.sub.old hx g2 (fun _ _=>rfl) (fun _ _=>rfl)
 .refine ⟨Nat.le_refl _,fun _ _ _=>rfl,fun b hb=>?_,fun b hb=>?_,fun b hb=>?_,rfl,rfl,fun x _ M h=>⟨M,(hloc x M h).2,.inl rfl⟩⟩
  .rcases hb with ⟨x,M,g1,g2⟩|⟨l,g1,g2,g3⟩|⟨x,g1⟩
   .exact .inl (.inl ⟨x,M,(hloc x M g1).2,g2⟩)
   .rcases g3 with g3|⟨e,_⟩
    .exact .inl (.inr (.inl ⟨l,g1,g2,g3⟩))
    .omega
   .simp only [C']at g1;split at g1
    .cases g1
    .exact .inl (.inr (.inr ⟨x,g1⟩))
  .rcases hb with hb|⟨e,_⟩
   .exact hb
   .omega
  .rcases hb with hb|⟨_,hb⟩
   .exact .inl hb
   .exact .inr (.inl (.inl ⟨u,L,h1,hb⟩))
end
end Go.Abs

namespace Go.Abs
open Go.Region (ready binds)
def deps (ops:List Oper)(i:Nat):List Nat:=
 match ops[i]? with
 |some o=>o.after.toList.filterMap fun e=>if binds .any e then some e.on else none
 |none=>[]
def anc (ops:List Oper):Nat->Nat->Nat->Bool
 |0,_,_=>false
 |f+1,i,j=>(deps ops i).any fun k=>Nat.beq k j||anc ops f k j
def opSlots (o:Oper):List Nat:=o.op.operands.toList.filterMap fun|.tmp t=>some t|_=>none
def gSlots (ops:List Oper)(o:Oper):List Nat:=match o.guard with
 |some (j,_)=>(((ops[j]?).bind (·.dst)).map fun d=>[d]).getD []
 |none=>[]
def dstAt (ops:List Oper)(i:Nat):Option Nat:=(ops[i]?).bind (·.dst)
def needs (ops:List Oper)(i:Nat):List Nat:=match ops[i]? with |some o=>opSlots o++gSlots ops o|none=>[]
def chkBack (ops:List Oper)(n:Nat):Bool:=(List.range n).all fun i=>(deps ops i).all fun k=>Nat.blt k i
def chkNeeds (ops:List Oper)(m n:Nat):Bool:=
 (List.range m).all fun i=>(needs ops i).all fun t=>(List.range m).all fun j=>Nat.beq j i||!(dstAt ops j == some t)||(bif Nat.blt j i then anc ops n i j else anc ops n j i)
def chkDst (ops:List Oper)(m:Nat):Bool:=
 (List.range m).all fun i=>(List.range m).all fun j=>Nat.beq i j||!(dstAt ops i == dstAt ops j)||dstAt ops i == none
def chkTail (ops:List Oper)(m n:Nat):Bool:=(List.range n).all fun t=>Nat.blt t m||(List.range t).all fun i=>anc ops n t i
def chkSel (ops:List Oper)(m:Nat):Bool:=Nat.ble m ops.length
def drawOk (ops:List Oper)(m:Nat):Bool:=chkBack ops ops.length&&chkNeeds ops m ops.length&&chkDst ops m&&chkTail ops m ops.length&&chkSel ops m
section
variable {P:Program} {ops:List Oper} {listed:Array Bool}
structure LInv (ops:List Oper) (listed:Array Bool):Prop where
 size:listed.size=ops.length
 closed:∀ i k,listed.getD i false=true->k∈deps ops i->listed.getD k false=true
theorem gV {i:Nat}(h:i∈ready .any ⟨ops⟩ listed):listed.getD i true=false/\i<ops.length/\∀ k∈deps ops i,listed.getD k false=true:=by
 obtain⟨h1,o,h2,h3⟩:=mem_ready.1 h;have h2':ops[i]? =some o:=by simpa using h2
 refine⟨h1,?_,fun k hk=>?_⟩
 .rcases Nat.lt_or_ge i ops.length with h|h
  .exact h
  .simp [List.getElem?_eq_none h]at h2'
 .simp only [deps,h2',List.mem_filterMap]at hk;obtain ⟨e,he,hk⟩:=hk;split at hk
  .simp at hk;subst hk;exact h3 e (by simpa using he) (by assumption)
  .simp at hk
theorem bP (inv:LInv ops listed):∀(f i j:Nat),(∀ k∈deps ops i,listed.getD k false=true)->anc ops f i j=true->listed.getD j false=true
 |0,_,_,_,h=>by simp [anc]at h
 |f+1,i,j,hd,h=>by
  simp only [anc,List.any_eq_true,Bool.or_eq_true]at h;obtain ⟨k,hk,h⟩:=h;rcases h with h|h
  .rw [Nat.beq_eq]at h;subst h;exact hd k hk
  .exact bP inv f k j (fun k' hk'=>inv.closed k k' (hd k hk) hk') h
theorem LInv.set {i:Nat}(inv:LInv ops listed)(hr:i∈ready .any ⟨ops⟩ listed):LInv ops (listed.setIfInBounds i true):=by
 obtain⟨_,_,h3⟩:=gV hr;refine ⟨by simp [inv.size],fun j k hj hk=>?_⟩;by_cases hij:i=j
 .subst hij;exact getD_set_true (h3 k hk)
 .rw [getD_set_ne false hij]at hj;exact getD_set_true (inv.closed j k hj hk)
theorem nP {i:Nat}(hi:i<listed.size):listed.getD i true=listed.getD i false:=by
 simp [hi]
theorem tY (inv:LInv ops listed)(hb:chkBack ops ops.length=true):∀ i,i<ops.length->listed.getD i false=false->∃ j,j<=i/\j∈ready .any ⟨ops⟩ listed:=by
 intro i;induction i using Nat.strongRecOn with
 |_ i ih=>
  intro hi hl;by_cases hall:∀ k∈deps ops i,listed.getD k false=true
  .refine ⟨i,Nat.le_refl _,mem_ready.2 ⟨by rw [nP (by rw [inv.size];exact hi)];exact hl,ops[i],by simp [hi],fun e he hbd=>hall e.on ?_⟩⟩;simp only [deps,List.getElem?_eq_getElem hi,List.mem_filterMap];exact ⟨e,by simpa using he,by rw [if_pos hbd]⟩
  .simp only [Classical.not_forall]at hall;obtain ⟨k,hk,hkl⟩:=hall;have hlt:k<i:=by
    have:=List.all_eq_true.1 hb i (List.mem_range.2 hi);have:=List.all_eq_true.1 this k hk;simpa using this
   obtain⟨j,hj,hr⟩:=ih k hlt (by omega) (by simpa using hkl);exact ⟨j,by omega,hr⟩
theorem count_set:∀(m:Nat) (i:Nat) (p q:Nat->Bool),i<m->p i=true->q i=false->(∀ j,j≠i->q j=p j)->((List.range m).filter q).length+1=((List.range m).filter p).length:=by
 intro m;induction m with
 |zero=>intro i p q hi;omega
 |succ m ih=>
  intro i p q hi hp hq hne;rw [List.range_succ,List.filter_append,List.filter_append,List.length_append,List.length_append];by_cases him:i=m
  .subst him;have e:(List.range i).filter q=(List.range i).filter p:=List.filter_congr fun j hj=>hne j (by have:=List.mem_range.1 hj;omega);rw [e];simp [hp,hq]
  .have:=ih i p q (by omega) hp hq hne;have e: [m].filter q=[m].filter p:=List.filter_congr fun j hj=>hne j (by simp at hj;omega);rw [e];omega
end
def St.only (s:St)(l:List Nat):St:=⟨l.map fun t=>(t,eget s.env t),s.heap,s.nx,s.n,s.lv⟩
theorem eget_only:∀(f:Nat->V) (l:List Nat) (t:Nat),eget (l.map fun t=>(t,f t)) t=if t∈l then f t else .junk
 |f,[],t=>rfl
 |f,x::l,t=>by
  simp only [List.map_cons,eget];rw [Bool.cond_eq_ite];by_cases h:t=x
  .subst h;simp
  .rw [if_neg (by simp [h]),eget_only f l t];simp [h]
def ORun (P:Program)(s:St)(o:Oper)(x:V):Prop:=
 ∀ C w a,StRep C w a s->∀(K:Act->World->Prop) (Q:Exit->Act->World->Prop),
  (∀ C' w' v,Rep C' w' v x->Ext C C' w w'->Fr C C' w w'->HSt C' w' s.heap->C'.nx=C.nx->(∀ l,C.lv l->C'.lv l)->K (a.put o.dst v) w')->o.wp P a w K Q
def OYield (P:Program)(ops:List Oper)(o:Oper)(s:St)(x:V):Prop:=
 (gd ops (s.only (gSlots ops o)) o.guard=some true/\ORun P (s.only (opSlots o)) o x)\/(gd ops (s.only (gSlots ops o)) o.guard=some false/\x=.tup [])
theorem cO {C:Ctx}{w:World}{a:Act}{s:St}(hs:StRep C w a s)(l:List Nat):StRep C w a (s.only l):=
 ⟨hs.defers,hs.size,hs.nx,fun i=>by
  show Rep C w _ (eget (l.map fun t=>(t,eget s.env t)) i);rw [eget_only (fun t=>eget s.env t) l i];split
  .exact hs.env i
  .exact .junk _,hs.heap,hs.lv⟩
structure Same (s s':St):Prop where
 env:∀ t,eget s.env t=eget s'.env t
 heap:s.heap=s'.heap
 nx:s.nx=s'.nx
 n:s.n=s'.n
 lv:s.lv=s'.lv
theorem Same.refl (s:St):Same s s:=⟨fun _=>rfl,rfl,rfl,rfl,rfl⟩
theorem Same.rep {C:Ctx}{w:World}{a:Act}{s s':St}(h:Same s s')(hs:StRep C w a s):StRep C w a s':=
 ⟨hs.defers,by rw [hs.size,h.n],by rw [hs.nx,h.nx],fun i=>by rw [<- h.env i];exact hs.env i,by rw [<- h.heap];exact hs.heap,by rw [<- h.lv];exact hs.lv⟩
theorem fR {s s':St}(l:List Nat)(he:∀ t∈l,eget s.env t=eget s'.env t)(hh:s.heap=s'.heap)(hx:s.nx=s'.nx)(hn:s.n=s'.n)(hl:s.lv=s'.lv):s.only l=s'.only l:=by
 unfold St.only;rw [hh,hx,hn,hl];congr 1;exact List.map_congr_left fun t ht=>by rw [he t ht]
theorem aq6 {P:Program}{ops:List Oper}{o:Oper}{s s':St}{x:V}(he:∀ t∈opSlots o++gSlots ops o,eget s.env t=eget s'.env t)(hh:s.heap=s'.heap)(hx:s.nx=s'.nx)(hn:s.n=s'.n)(hl:s.lv=s'.lv)
 (h:OYield P ops o s x):OYield P ops o s' x:=by
 unfold OYield at *;rw [<- fR (gSlots ops o) (fun t ht=>he t (List.mem_append.2 (.inr ht))) hh hx hn hl,<- fR (opSlots o) (fun t ht=>he t (List.mem_append.2 (.inl ht))) hh hx hn hl];exact h
def after (E:Nat->V):List (Option Nat×V)->Nat->V
 | [],t=>E t
 |(d,x)::r,t=>after (fun u=>if d=some u then x else E u) r t
theorem rR:∀(L:List (Option Nat×V)) (E:Nat->V) (t:Nat),(∀ p∈L,p.1≠some t)->after E L t=E t
 | [],_,_,_=>rfl
 |(d,x)::r,E,t,h=>by
  simp only [after];rw [rR r _ t (fun p hp=>h p (by simp [hp]))];rw [if_neg (h (d,x) (by simp))]
theorem ac9:∀(L:List (Option Nat×V)) (E:Nat->V) (t i:Nat) (p:Option Nat×V),L[i]? =some p->p.1=some t->(∀ j q,j≠i->L[j]? =some q->q.1≠some t)->after E L t=p.2
 | [],_,_,i,_,h,_,_=>by simp at h
 |(d,x)::r,E,t,0,p,h,hp,hu=>by
  simp at h;subst h;simp only [after];rw [rR r _ t (fun q hq=>by
   obtain⟨j,hj⟩:=List.getElem?_of_mem hq;exact hu (j+1) q (by omega) (by simpa using hj))]
  rw [if_pos hp]
 |(d,x)::r,E,t,i+1,p,h,hp,hu=>by
  simp only [after];exact ac9 r _ t i p (by simpa using h) hp (fun j q hj hq=>hu (j+1) q (by omega) (by simpa using hq))
theorem sK {s s1:St}{d:Option Nat}{x:V}(h:s.put d x=some s1):(∀ t,eget s1.env t=if d=some t then x else eget s.env t)/\s1.heap=s.heap/\s1.nx=s.nx/\s1.n=s.n/\s1.lv=s.lv/\(∀ u,d=some u->u<s.n):=by
 cases d with
 |none=>
  have:s.put none x=some s:=by cases s;rfl
  rw [this]at h;simp at h;subst h;exact ⟨fun t=>by simp,rfl,rfl,rfl,rfl,fun u hu=>by simp at hu⟩
 |some d=>
  have:s.put (some d) x=bif Nat.blt d s.n then some { s with env:=(d,x)::s.env }else none:=by cases s;rfl
  rw [this,Bool.cond_eq_ite]at h;split at h
  .rename_i hd;simp only [Option.some.injEq]at h;subst h;refine ⟨fun t=>?_,rfl,rfl,rfl,rfl,fun u hu=>by simp at hu;subst hu;simpa using hd⟩;simp only [eget];rw [Bool.cond_eq_ite];by_cases ht:t=d
   .subst ht;simp
   .rw [if_neg (by simp [ht]),if_neg (fun e=>ht (by simp at e;exact e.symm))]
  .simp at h
theorem put_of {s:St}{d:Option Nat}{x:V}(h:∀ u,d=some u->u<s.n):∃ s1,s.put d x=some s1:=by
 cases d with
 |none=>exact⟨s,by cases s;rfl⟩
 |some d=>
  have:s.put (some d) x=bif Nat.blt d s.n then some { s with env:=(d,x)::s.env }else none:=by cases s;rfl
  exact⟨_,by rw [this,show Nat.blt d s.n=true from by simpa using h d rfl];rfl⟩
structure SameBut (s s':St):Prop where
 heap:s.heap=s'.heap
 nx:s.nx=s'.nx
 n:s.n=s'.n
 lv:s.lv=s'.lv
section
variable {P:Program} {ops:List Oper} {m:Nat}
theorem chkAnd (h:drawOk ops m=true):chkBack ops ops.length=true/\chkNeeds ops m ops.length=true/\chkDst ops m=true/\chkTail ops m ops.length=true/\m<=ops.length:=by
 simp only [drawOk,Bool.and_eq_true]at h;obtain ⟨⟨⟨⟨h1,h2⟩,h3⟩,h4⟩,h5⟩:=h;exact ⟨h1,h2,h3,h4,by simpa [chkSel]using h5⟩
theorem aF (h:chkDst ops m=true){i j t:Nat}(hi:i<m)(hj:j<m)(h1:dstAt ops i=some t)(h2:dstAt ops j=some t):i=j:=by
 have a:=List.all_eq_true.1 (List.all_eq_true.1 h i (List.mem_range.2 hi)) j (List.mem_range.2 hj);rw [h1,h2]at a;simpa using a
theorem ak3 {listed:Array Bool}(inv:LInv ops listed)(h:chkTail ops m ops.length=true){t i:Nat}(hr:t∈ready .any ⟨ops⟩ listed)(ht:m<=t)(hi:i<t):listed.getD i false=true:=by
 obtain⟨_,h2,h3⟩:=gV hr;have a:=List.all_eq_true.1 h t (List.mem_range.2 h2);simp only [Bool.or_eq_true]at a;rcases a with a|a
 .rw [Nat.blt_eq]at a;omega
 .exact bP inv _ t i h3 (List.all_eq_true.1 a i (List.mem_range.2 hi))
theorem ay0 {Q:Exit->Act->World->Prop}(hok:drawOk ops m=true):∀(g k:Nat) (listed:Array Bool) (a:Act) (w:World),k+g=ops.length->m<=k->LInv ops listed->(∀ i,i<k->listed.getD i false=true)->(∀ i,k<=i->i<ops.length->listed.getD i true=false)->
 wpList P ⟨ops⟩ Q (ops.drop k) a w->wpAny P .any ⟨ops⟩ Q g listed a w
 |0,k,listed,a,w,hk,_,inv,hall,_,h=>by
  have:ops.drop k=[]:=List.drop_eq_nil_of_le (by omega);rw [this]at h;refine ⟨?_,h⟩;cases hrd:ready .any ⟨ops⟩ listed with
  |nil=>rfl
  |cons j r=>
   have hj:j∈ready .any ⟨ops⟩ listed:=by rw [hrd];simp
   obtain⟨h1,h2,_⟩:=gV hj;have:=hall j (by omega);rw [nP (by rw [inv.size];exact h2)]at h1;rw [h1]at this;cases this
 |g+1,k,listed,a,w,hk,hmk,inv,hall,hno,h=>by
  obtain⟨c1,c2,c3,c4,c5⟩:=chkAnd hok;have hkl:k<ops.length:=by omega
  have hkf:listed.getD k false=false:=by
   have:=hno k (Nat.le_refl _) hkl
   rwa [nP (by rw [inv.size];exact hkl)]at this
  obtain⟨j,hj1,hj2⟩:=tY inv c1 k hkl hkf;refine ⟨fun h0=>by rw [h0]at hj2;simp at hj2,fun i hi=>?_⟩;obtain ⟨i1,i2,i3⟩:=gV hi;have hik:i=k:=by
   rcases Nat.lt_trichotomy i k with h|h|h
   .have:=hall i h;rw [nP (by rw [inv.size];exact i2)]at i1;rw [i1]at this;cases this
   .exact h
   .have:=ak3 inv c4 hi (by omega) h;rw [hkf]at this;cases this
  subst hik;have hd:ops.drop i=ops[i]::ops.drop (i+1):=List.drop_eq_getElem_cons hkl;rw [hd]at h;have hop:(⟨ops⟩:Array Oper)[i]? =some ops[i]:=by simp [hkl]
  have hinv2:=inv.set hi;have next:∀ a w,wpList P ⟨ops⟩ Q (ops.drop (i+1)) a w->wpAny P .any ⟨ops⟩ Q g (listed.setIfInBounds i true) a w:=fun a w hh=>
   ay0 hok g (i+1) _ a w (by omega) (by omega) hinv2 (fun x hx=>by
    by_cases hxi:x=i
    .subst hxi;simp [inv.size,hkl]
    .rw [getD_set_ne false (fun e=>hxi e.symm)];exact hall x (by omega)) (fun x hx hx2=>by rw [getD_set_ne true (by omega)];exact hno x (by omega) hx2) hh
  unfold wpOp;rw [hop];simp only;unfold wpList at h;split at h
  .rename_i hw;rw [if_pos hw];exact h.imp (Oper.wp_mono next) id
  .rename_i hw;rw [if_neg hw];exact next _ _ h
structure Cur (ops:List Oper) (m:Nat) (val:Nat->V) (s0:St) (listed:Array Bool) (s:St):Prop where
 on:∀ i t,i<m->dstAt ops i=some t->listed.getD i false=true->eget s.env t=val i
 off:∀ t,(∀ i,i<m->dstAt ops i=some t->listed.getD i false=false)->eget s.env t=eget s0.env t
 mt:SameBut s s0
theorem aN (m j:Nat):(Array.replicate m false).getD j false=false:=by
 rcases Nat.lt_or_ge j m with h|h
 .simp [h]
 .simp [h]
theorem Same.trans {s s' s2:St}(h:Same s s')(g:Same s' s2):Same s s2:=⟨fun t=>(h.env t).trans (g.env t),h.heap.trans g.heap,h.nx.trans g.nx,h.n.trans g.n,h.lv.trans g.lv⟩
theorem orun_val {s:St}{d:Option Nat}{op:Op}{ty:Nat}{pos:String}{af:Array Edge}{gu:Option (Nat×Bool)}{x:V}(h:OpVal P s op x):ORun P s ⟨d,op,ty,pos,af,gu⟩ x:=by
 intro C w a hs K Q hK;obtain ⟨v,h1,h2⟩:=h C w a hs d ty pos af gu;unfold Oper.wp;rw [h1 w (Agree.refl w)];exact hK C w v h2 (Ext.refl _ _) (Fr.refl _ _) hs.heap rfl (fun _ h=>h)
def dstep (T:List TI)(ops:List Oper)(s:St)(o:Oper):Option St:=
 match gd ops (s.only (gSlots ops o)) o.guard with
 |some true=>(match pstep T (s.only (opSlots o)) o.op with
  |some v=>s.put o.dst v
  |none=>none)
 |some false=>s.put o.dst (.tup [])
 |none=>none
theorem zE {f:FuncId}{args:List Operand}{args':List V}{x:V}{tys:Array TypeId}{d:Option Nat}{ty:Nat}{pos:String}{af:Array Edge}{gu:Option (Nat×Bool)}{s:St}
 (hc:FC P f args' [] 12 (fun y _=>y=x)) (hg:gd ops (s.only (gSlots ops ⟨d,.call ⟨.value (.func f),⟨args⟩,tys⟩,ty,pos,af,gu⟩)) gu=some true)
 (hv:V.rlL (f0 s) (evL (s.only (opSlots ⟨d,.call ⟨.value (.func f),⟨args⟩,tys⟩,ty,pos,af,gu⟩)) args)=args') (hx:x.rl f01=x):
 OYield P ops ⟨d,.call ⟨.value (.func f),⟨args⟩,tys⟩,ty,pos,af,gu⟩ s x:=by
 refine .inl ⟨hg,?_⟩;intro C w a hs K Q hK;have hf0:f0 (s.only (opSlots ⟨d,.call ⟨.value (.func f),⟨args⟩,tys⟩,ty,pos,af,gu⟩))=f0 s:=rfl;rw [<- hf0]at hv;obtain ⟨⟨fn,h1,h2,h3⟩,hcall⟩:=hc;have e:(execOp a.eval ⟨d,.call ⟨.value (.func f),⟨args⟩,tys⟩,ty,pos,af,gu⟩).run P w=.ok (.enter f ⟨args.map a.eval⟩) w:=by
  simp only [execOp,resolve,Act.eval,Deferred.ofValue,Sem.run_bind,Sem.run_pure,Result.andThen_ok,invoke,callFunc,run_program,h1,h2,h3];simp
 unfold Oper.wp;rw [e,Oper.upon_enter];refine (hcall (C.callee (·<w.heap.size)) w ⟨args.map a.eval⟩ rfl (pR C w (fun b h=>h) hs.heap.tabC) (callee_args hs hv)).mono ?_;rintro e w' ⟨v,C2,y,h2,rfl,e2,e3,e4,rfl⟩;obtain ⟨b1,b2⟩:=aq9 hs e4 e2;have A:=fL e4;refine hK (C.back C2 w) w' v ?_ ⟨Nat.le_refl _,fun _ L _ h=>⟨L,h,.inl rfl⟩,fun _ _ h=>h,fun l b _ hl hb=>⟨.inl hb,A.2 b (hs.heap.regs l b hl hb)⟩⟩ b2 b1.heap rfl (fun _ h=>h);rw [<- hx];refine Rep.rl (C:=C2) ⟨fun l _=>?_,fun l _ hl=>?_,fun l b _ hl hb=>⟨?_,rfl⟩⟩ e3
 .have:=hs.heap.two;show f01 l<C.nx;unfold f01;cases Nat.beq l 1<;>simp<;>omega
 .unfold f01 at hl;cases hb:Nat.beq l 1
  .rw [hb]at hl;exact absurd hl hs.heap.zero.2.2
  .rw [Nat.beq_eq]at hb;rw [hb];exact e2.zero.2.1
 .unfold f01 at hl |-;cases hb1:Nat.beq l 1
  .rw [hb1]at hl;exact absurd hl hs.heap.zero.2.2
  .rw [Nat.beq_eq]at hb1;subst hb1;refine .inr ⟨rfl,hb,?_⟩;rcases e4.r1 b hb with h|h|h
   .exact absurd h.1 (by omega)
   .rcases h with ⟨u,L,h,_⟩|⟨l,h1,h2,_⟩|⟨u,h⟩
    .simp [Ctx.callee]at h
    .have:l<=1:=h2;omega
    .cases h
   .exact h
end
end Go.Abs

namespace Go.Abs
def vfill (place:Nat->Option (Nat×Nat))(cells:List V):List (Nat×List V)->Option (List V)
 | []=>some cells
 |(i,cs)::r=>match place i with
  |some (off,size)=>bif Nat.beq cs.length size then(match putAt cells off cs with |some cells'=>vfill place cells' r|none=>none)else none
  |none=>none
def partsV (s:St):List (Nat×Operand)->Option (List (Nat×List V))
 | []=>some []
 |(i,x)::r=>match cellsV s (ev s x),partsV s r with
  |some cs,some ps=>some ((i,cs)::ps)
  |_,_=>none
def fieldPl (T:List TI)(fs:List (Nat×Nat))(i:Nat):Option (Nat×Nat):=match fs[i]? with
 |some (o,t)=>(match T[t]? with |some ⟨_,size,_,_,_⟩=>some (o,size)|none=>none)
 |none=>none
def buildV (T:List TI)(s:St)(t:Nat)(parts:List (Nat×Operand)):Option V:=
 match T[t]? with
 |some { kind:=.struct fs,zero:=z,.. }=>(bif z.isEmpty then none else match partsV s parts with
  |some ps=>(match vfill (fieldPl T fs) z ps with |some cs=>some (.agg cs)|none=>none)
  |none=>none)
 |_=>none
section
variable {P:Program} {T:List TI} {s:St} {ops:Array Oper} {d:Option Nat} {ty:Nat} {pos:String} {af:Array Edge} {gu:Option (Nat×Bool)} {r:List Oper} {K:St->Prop} {s1:St}
theorem vP:∀(cs:List Value) (k:Nat) (off:Nat) (arr:Array Value),off+k+cs.length<=arr.size->
 ((cs.zipIdx k).foldl (fun a (p:Value×Nat)=>a.setIfInBounds (off+p.2) p.1) arr).toList=arr.toList.take (off+k)++cs++arr.toList.drop (off+k+cs.length)
 | [],k,off,arr,_=>by simp
 |c::cs,k,off,arr,h=>by
  have h':off+k+(cs.length+1)<=arr.size:=by simpa using h
  simp only [List.zipIdx_cons,List.foldl_cons];rw [vP cs (k+1) off _ (by simp;omega)];have e:=list_seg_step arr.toList (off+k) c cs (by simp;omega);simpa [Array.toList_setIfInBounds,Nat.add_assoc]using e
theorem fill_spec {C:Ctx}{w:World}{a:Act}(hs:StRep C w a s){place:Nat->Option (Nat×Nat)}:∀{parts:List (Nat×Operand)} {ps:List (Nat×List V)} {cells:Array Value} {zs cs:List V},partsV s parts=some ps->RepL C w cells.toList zs->vfill place zs ps=some cs->
 ∃ cells',Instr.fill place cells (parts.map fun p=>(p.1,a.eval p.2))=some cells'/\RepL C w cells'.toList cs
 | [],ps,cells,zs,cs,hp,hz,hf=>by
  simp only [partsV,Option.some.injEq]at hp;subst hp;simp only [vfill,Option.some.injEq]at hf;subst hf;exact ⟨cells,rfl,hz⟩
 |(i,x)::r,ps,cells,zs,cs,hp,hz,hf=>by
  simp only [partsV]at hp;split at hp
  .rename_i xs ps' h1 h2;simp only [Option.some.injEq]at hp;subst hp;simp only [vfill]at hf;split at hf
   .rename_i off size hpl;rw [Bool.cond_eq_ite]at hf;split at hf
    .rename_i hc;rw [Nat.beq_eq]at hc;split at hf;rotate_left
     .simp at hf
     rename_i cells' hput;obtain ⟨hput1,hput2⟩:=eS hput;subst hput1;have hc:=And.intro hc hput2;have hx:=gY hs (hs.ev x) h1;have hxl:=hx.length;have hzl:=hz.length;simp only [Array.length_toList]at hxl hzl;have hb:off+0+(a.eval x).cells.toList.length<=cells.size:=by simp;omega
     have hset:=vP (a.eval x).cells.toList 0 off cells hb;have hnew:RepL C w ((a.eval x).cells.toList.zipIdx.foldl (fun a (p:Value×Nat)=>a.setIfInBounds (off+p.2) p.1) cells).toList (zs.take off++xs++zs.drop (off+xs.length)):=by
      rw [hset];have hcl:(a.eval x).cells.toList.length=xs.length:=by simpa using hxl
      rw [Nat.add_zero,hcl];exact ((hz.take off).append hx).append (hz.drop _)
     obtain⟨cells',g1,g2⟩:=fill_spec hs (parts:=r) h2 hnew hf;refine ⟨cells',?_,g2⟩;simp only [List.map_cons,Instr.fill,hpl];rw [if_neg (by simp;omega)];rw [<- g1];congr 1;rw [<- Array.foldl_toList,Array.toList_zipIdx]
    .simp at hf
   .simp at hf
  .simp at hp
theorem oC (hT:TabOK P T)(w:World)(fields:Array Field)(fs:List (Nat×Nat))(hm:fields.toList.map (fun f=>(f.offset,f.type))=fs)(hall:fs.all (fun p=>(T[p.2]?).isSome)=true):
 ∃ places:Array (Nat×Nat),(fields.mapM (fun f=>do pure (f.offset,<- sizeOf f.type):Field->Sem (Nat×Nat))).run P w=.ok places w/\∀ i,places[i]? =fieldPl T fs i:=by
 have key:∀ l:List Field,(l.map (fun f=>(f.offset,f.type))).all (fun p=>(T[p.2]?).isSome)=true->∃ pl:List (Nat×Nat),(l.mapM (fun f=>do pure (f.offset,<- sizeOf f.type):Field->Sem (Nat×Nat))).run P w=.ok pl w/\∀ i,pl[i]? =fieldPl T (l.map (fun f=>(f.offset,f.type))) i:=by
  intro l;induction l with
  |nil=>intro _;exact⟨[],by simp,fun i=>by simp [fieldPl]⟩
  |cons f l ih=>
   intro h;simp only [List.map_cons,List.all_cons,Bool.and_eq_true]at h;obtain ⟨ti,hti⟩:=Option.isSome_iff_exists.1 h.1;obtain ⟨pl,h1,h2⟩:=ih h.2;refine ⟨(f.offset,ti.size)::pl,by simp only [List.mapM_cons,Sem.run_bind,hT.size hti,Result.andThen_ok,Sem.run_pure,h1],fun i=>?_⟩;cases i with
   |zero=>simp [fieldPl,hti]
   |succ i=>simpa [fieldPl]using h2 i
 subst hm;obtain ⟨pl,h1,h2⟩:=key fields.toList hall;refine ⟨⟨pl⟩,?_,fun i=>by simpa using h2 i⟩;rw [Array.mapM_eq_mapM_toList];simp only [Sem.run_map,h1,Result.andThen_ok]
def fieldsOk (T:List TI)(t:Nat):Bool:=match T[t]? with
 |some { kind:=.struct fs,.. }=>fs.all (fun p=>(T[p.2]?).isSome)
 |_=>false
theorem F3 {t:Nat}{parts:List (Nat×Operand)}{x:V}(hT:TabOK P T)(hok:fieldsOk T t=true)(hx:buildV T s t parts=some x):OpVal P s (.build t ⟨parts⟩) x:=fun C w a hs d ty pos af gu=>by
 unfold buildV at hx;split at hx
 .rename_i fs size bytes z ag ht;rw [Bool.cond_eq_ite]at hx;split at hx
  .simp at hx
  .rename_i hz;split at hx
   .rename_i ps hps;split at hx
    .rename_i cs hcs;simp only [Option.some.injEq]at hx;subst hx;obtain ⟨fields,hu,hmap⟩:=hT.struct ht rfl;obtain ⟨zv,hz1,hz2⟩:=hT.zero ht (by intro e;simp at e;simp [e]at hz);have hok':fs.all (fun p=>(T[p.2]?).isSome)=true:=by simpa [fieldsOk,ht]using hok
     have hrep:=sL C w zv.cells.toList;rw [hz2]at hrep;obtain ⟨places,_,hpl⟩:=oC hT w fields fs hmap hok';obtain ⟨cells',g1,g2⟩:=fill_spec hs (place:=(places[·]?)) hps hrep (by
      have:(fun i=>places[i]?)=fieldPl T fs:=funext hpl;rw [this];exact hcs)
     refine⟨.agg cells',fun w' _=>?_,.agg (by simpa using g2)⟩;obtain ⟨places',hp1',hpl'⟩:=oC hT w' fields fs hmap hok';have heq:places'=places:=Array.ext_getElem? fun i=>by rw [hpl',hpl]
     subst heq;have g1':Instr.fill (fun i=>places'[i]?) zv.cells (parts.map fun p=>(p.1,a.eval p.2))=some cells':=g1;simp only [execOp,Instr.build,Sem.run_bind,hz1,Result.andThen_ok,run_underlying hu,hp1'];simp [g1']
    .simp at hx
   .simp at hx
 .simp at hx
def rowsV (s:St)(sz:Nat):Nat->List (Nat×Operand)->Option (List (List V))
 |_,[]=>some []
 |k,(i,x)::r=>bif Nat.beq i k then(match cellsV s (ev s x),rowsV s sz (k+1) r with
  |some cs,some rs=>bif Nat.beq cs.length sz then some (cs::rs)else none
  |_,_=>none)else none
theorem aq0 {C:Ctx}{w:World}{a:Act}(hs:StRep C w a s){sz:Nat}:∀{parts:List (Nat×Operand)} {k:Nat} {rows:List (List V)} {cells:Array Value},rowsV s sz k parts=some rows->cells.size=(k+rows.length) * sz->
 ∃ vals:List (List Value),Instr.fill (fun i=>some (i * sz,sz)) cells (parts.map fun p=>(p.1,a.eval p.2))=some ⟨cells.toList.take (k * sz)++vals.flatten⟩/\vals.length=rows.length/\(∀ (i:Nat) (row:List V),rows[i]? =some row->∃ vs,vals[i]? =some vs/\RepL C w vs row)/\(∀ vs∈vals,vs.length=sz)
 | [],k,rows,cells,h,hc=>by
  simp only [rowsV,Option.some.injEq]at h;subst h;refine ⟨[],?_,rfl,fun i row hi=>by simp at hi,fun vs h=>by simp at h⟩;simp only [List.map_nil,Instr.fill,List.flatten_nil,List.append_nil];simp at hc;rw [List.take_of_length_le (by simp;omega)]
 |(i,x)::r,k,rows,cells,h,hc=>by
  simp only [rowsV]at h;rw [Bool.cond_eq_ite]at h;split at h
  .rename_i hik;rw [Nat.beq_eq]at hik;subst hik;split at h
   .rename_i cs rs h1 h2;rw [Bool.cond_eq_ite]at h;split at h
    .rename_i hsz;rw [Nat.beq_eq]at hsz;simp only [Option.some.injEq]at h;subst h;have hx:=gY hs (hs.ev x) h1;have hxl:=hx.length;simp only [Array.length_toList]at hxl;have hcs:cells.size=i * sz+sz+rs.length * sz:=by rw [hc];simp only [List.length_cons];rw [<- Nat.succ_mul,<- Nat.add_mul];congr 1;omega
     have hset:=vP (a.eval x).cells.toList 0 (i * sz) cells (by simp;omega)
     let cells2:=((a.eval x).cells.toList.zipIdx.foldl (fun a (p:Value×Nat)=>a.setIfInBounds (i * sz+p.2) p.1) cells)
     have hset':cells2.toList=cells.toList.take (i * sz)++(a.eval x).cells.toList++cells.toList.drop (i * sz+sz):=by
      have:(a.eval x).cells.toList.length=sz:=by simp;omega
      rw [Nat.add_zero,this]at hset;exact hset
     have hcs2:cells2.size=(i+1+rs.length) * sz:=by
      have:cells2.toList.length=(i+1+rs.length) * sz:=by
       rw [hset'];simp only [List.length_append,List.length_take,List.length_drop,Array.length_toList];rw [Nat.add_mul,Nat.succ_mul];omega
      simpa using this
     obtain⟨vals,g1,g2,g3,g4⟩:=aq0 hs (parts:=r) (cells:=cells2) h2 hcs2;refine ⟨(a.eval x).cells.toList::vals,?_,by simp [g2],fun j row hj=>?_,fun vs hv=>?_⟩
     .simp only [List.map_cons,Instr.fill];rw [if_neg (by simp;omega)];have e:((a.eval x).cells.zipIdx.foldl (fun cs (p:Value×Nat)=>cs.setIfInBounds (i * sz+p.2) p.1) cells)=cells2:=by
       rw [<- Array.foldl_toList,Array.toList_zipIdx]
      have e2:(Array.foldl (fun cs x=>match x with |(c,j)=>cs.setIfInBounds (i * sz+j) c) cells (a.eval x).cells.zipIdx)=cells2:=e;rw [e2,g1,hset'];congr 2;have hlen:(cells.toList.take (i * sz)++(a.eval x).cells.toList).length=(i+1) * sz:=by
       simp only [List.length_append,List.length_take,Array.length_toList];rw [Nat.succ_mul];omega
      rw [List.take_append_of_le_length (by omega),List.take_of_length_le (by omega)];simp
     .cases j with
      |zero=>simp at hj;subst hj;exact⟨_,by simp,hx⟩
      |succ j=>simpa using g3 j row (by simpa using hj)
     .rcases List.mem_cons.1 hv with rfl|hv
      .simp;omega
      .exact g4 vs hv
    .simp at h
   .simp at h
  .simp at h
theorem tL {sz:Nat}:∀(vals:List (List Value)),(∀ vs∈vals,vs.length=sz)->∀(i j:Nat) (vs:List Value) (v:Value),vals[i]? =some vs->vs[j]? =some v->vals.flatten[i * sz+j]? =some v
 | [],_,i,j,vs,v,h,_=>by simp at h
 |x::r,hall,0,j,vs,v,h,hj=>by
  simp at h;subst h;have hjl:j<x.length:=by
   rcases Nat.lt_or_ge j x.length with h|h
   .exact h
   .simp [List.getElem?_eq_none h]at hj
  rw [List.flatten_cons,Nat.zero_mul,Nat.zero_add,List.getElem?_append_left hjl];exact hj
 |x::r,hall,i+1,j,vs,v,h,hj=>by
  have hx:=hall x (by simp);rw [List.flatten_cons,Nat.succ_mul,List.getElem?_append_right (by omega)];rw [show i * sz+sz+j-x.length=i * sz+j by omega];exact tL r (fun vs hv=>hall vs (by simp [hv])) i j vs v (by simpa using h) hj
theorem av9 {d:Option Nat}{ty:Nat}{pos:String}{af:Array Edge}{gu:Option (Nat×Bool)}{t e n:Nat}{kd:TK}{sz bts:Nat}{z0:List V}{ag:Bool}{parts:List (Nat×Operand)}{rows:List (List V)}(hT:TabOK P T)(ht:elemI T t=some (e,⟨kd,sz,bts,z0,ag⟩))(hz:z0.isEmpty=false)
 (hr:rowsV s sz 0 parts=some rows) (hn:Nat.beq rows.length n=true) (hb:Nat.ble (n * sz) 16777216=true) {C:Ctx} {w:World} {a:Act} (hs:StRep C w a s):
 ∃ v cs el,(execOp a.eval ⟨d,.buildSlice t n ⟨parts⟩,ty,pos,af,gu⟩).run P w=.ok (.value v) (w.alloc (.cells cs el))/\cs.size=n * sz/\rows.length<=n/\RowsIn C w cs sz rows/\v=.slice (some ⟨w.heap.size,0,none⟩) n n:=by
 rw [Nat.beq_eq]at hn;rw [Nat.ble_eq]at hb;obtain ⟨hu,hte⟩:=gR hT ht;obtain ⟨z,hz1,hz2⟩:=hT.zero hte (by intro e;dsimp only at e;simp [e]at hz);dsimp only at hz2
 let zc:Array Value:=if n * sz=0 then #[]else z.cells
 obtain⟨vals,g1,g2,g3,g4⟩:=aq0 hs (cells:=(Array.range (n * sz)).map (fun i=>zc[i % zc.size]!)) hr (by simp [hn]);simp only [Nat.zero_mul,List.take_zero,List.nil_append]at g1;have hfl:vals.flatten.length=n * sz:=by
  have:∀ l:List (List Value),(∀ vs∈l,vs.length=sz)->l.flatten.length=l.length * sz:=by
   intro l;induction l with
   |nil=>intro _;simp
   |cons x l ih=>intro h;rw [List.flatten_cons,List.length_append,h x (by simp),ih (fun vs hv=>h vs (by simp [hv])),List.length_cons,Nat.succ_mul,Nat.add_comm]
  rw [this vals g4,g2,hn]
 refine⟨.slice (some ⟨w.heap.size,0,none⟩) n n,⟨vals.flatten⟩,e,?_,by simpa using hfl,by omega,⟨fun i=>(vals[i]?).getD [],fun i row hi=>?_⟩,rfl⟩
 .have hle:¬ n * sz>2 ^ 24:=by omega
  have hparts:(⟨parts⟩:Array (Nat×Operand)).map (fun (i,x)=>(i,a.eval x))=⟨parts.map fun p=>(p.1,a.eval p.2)⟩:=by simp
  simp only [execOp,Instr.buildSlice,Sem.run_bind,run_underlying hu,Result.andThen_ok,hT.size hte,hle,if_false,Sem.run_pure,hparts];by_cases h0:n * sz=0
  .have hzc:zc=#[]:=if_pos h0;rw [hzc]at g1;rw [h0]at g1;simp only [h0,if_true,Sem.run_bind,Sem.run_pure,Result.andThen_ok,g1];simp [newRow]
  .have hzc:zc=z.cells:=if_neg h0;rw [hzc]at g1;simp only [h0,if_false,Sem.run_bind,hz1,Sem.run_pure,Result.andThen_ok,g1];simp [newRow]
 .obtain ⟨vs,h1,h2⟩:=g3 i row hi;have hv:(vals[i]?).getD []=vs:=by rw [h1];rfl
  refine⟨?_,fun j v hj=>?_,by show RepL C w ((vals[i]?).getD []) row;rw [hv];exact h2⟩
  .show ((vals[i]?).getD []).length=sz;rw [hv];exact g4 vs (List.mem_of_getElem? h1)
  .have hj:((vals[i]?).getD [])[j]? =some v:=hj;rw [hv]at hj;rw [List.getElem?_toArray];exact tL vals g4 i j vs v h1 hj
theorem nz_of {b:Bool}{sz:Nat}(h:(b&&!Nat.beq sz 0)=true):sz≠0:=fun e=>by subst e;simp at h
theorem ble_of {b c:Bool}{sz:Nat}(h:((b&&c)&&!Nat.beq sz 0)=true):b=true:=by simp at h;exact h.1.1
theorem flat_of {b c:Bool}{sz:Nat}(h:((b&&c)&&!Nat.beq sz 0)=true):c=true:=by simp at h;exact h.1.2
theorem eN {t e n:Nat}{kd:TK}{sz bts:Nat}{z0:List V}{ag:Bool}{parts:List (Nat×Operand)}{rows:List (List V)}(hT:TabOK P T)(hg:gd ops.toList s gu=some true)(ht:elemI T t=some (e,⟨kd,sz,bts,z0,ag⟩))(hz:z0.isEmpty=false)
 (hr:rowsV s sz 0 parts=some rows) (hn:Nat.beq rows.length n=true) (hb:((Nat.ble (n * sz) 16777216&&flatR rows)&&!Nat.beq sz 0)=true)
 (hp:s.newH sz rows n d=some s1) (h:AOps P ops r s1 K):
 AOps P ops (⟨d,.buildSlice t n ⟨parts⟩,ty,pos,af,gu⟩::r) s K:=
 ab8 (cap:=n) (rows:=rows) (sz:=sz) (flat_of hb) (nz_of hb) hg (fun C w a hs=>by
  obtain⟨v,cs,el,h1,h2,h3,h4,h5⟩:=av9 (d:=d) (ty:=ty) (pos:=pos) (af:=af) (gu:=gu) hT ht hz hr hn (ble_of hb) hs;have e:rows.length=n:=Nat.eq_of_beq_eq_true hn;refine ⟨v,cs,el,h1,h2,h3,h4,fun C' g1 g2=>?_⟩;rw [h5];exact ai3 (nz_of hb) (by rw [e]at g1;exact g1) g2) (by rw [<- newH_eq];exact hp) h
end
end Go.Abs

namespace Go.Abs
structure Good (C:Ctx) (w:World):Prop where
 lv:C.lv 0
 nx:0<C.nx
 reg:∀ b,b<w.heap.size->C.reg 0 b
def Dec (P:Program)(N:Nat)(t:TypeId){X:Type}(W:X->Prop)(e:X->List V):Prop:=
 ∀(H:Type) (enc:TypeId×Value->H) (C:Ctx) (w:World) (sp:Nat->Bool) (held:Bool) (fuel:Nat) (cs:List Value) (d:DataW H×List MemPlace),
  Good C w->fuel<=N->DataW.trod enc P w 0 sp held fuel t cs=some d->∃ x,W x/\RepL C w cs (e x)
theorem Dec.map {P:Program}{N:Nat}{t:TypeId}{X Y:Type}{W:X->Prop}{W':Y->Prop}{e:X->List V}{e':Y->List V}(h:Dec P N t W e)(g:X->Y)(hw:∀ x,W x->W' (g x))(he:∀ x,e x=e' (g x)):Dec P N t W' e':=
 fun H enc C w sp held fuel cs d hG hf ht=>by
  obtain⟨x,h1,h2⟩:=h H enc C w sp held fuel cs d hG hf ht;exact ⟨g x,hw x h1,by rw [<- he];exact h2⟩
section
variable {P:Program} {N:Nat} {t:TypeId}
theorem yB {k:IntKind}(ht:P.underlying t=some (.int k)):Dec P N t (fun n:Int=>k.min<=n/\n<=k.max) (fun n=>[.int k n]):=
 fun H enc C w sp held fuel cs d _ _ h=>by
  obtain⟨n,rfl,_,h2⟩:=DataW.trod_int ht h;simp only [Lit.wf,Bool.and_eq_true,decide_eq_true_eq]at h2;exact ⟨n,h2,.cons (.int k n) .nil⟩
theorem dec_str (ht:P.underlying t=some .string):Dec P N t (fun l:List UInt8=>l.length<=9223372036854775807) (fun l=>[.str l]):=
 fun H enc C w sp held fuel cs d _ _ h=>by
  obtain⟨s,rfl,_,h2⟩:=DataW.trod_string ht h;refine ⟨s.data.toList,by show s.data.toList.length<=_;rw [Array.length_toList];exact h2,.cons ?_ .nil⟩;have:s=⟨s.data.toList.toArray⟩:=by simp
  rw [this];exact .str _
theorem ad9 {α:Type}{p:Nat->α->Prop}:∀ n:Nat,(∀ i,i<n->∃ x,p i x)->∃ l:List α,l.length=n/\∀ i x,l[i]? =some x->p i x
 |0,_=>⟨[],rfl,fun i x h=>by simp at h⟩
 |n+1,h=>by
  obtain⟨l,h1,h2⟩:=ad9 n (fun i hi=>h i (by omega));obtain ⟨x,hx⟩:=h n (by omega);refine ⟨l++[x],by simp [h1],fun i y hy=>?_⟩;rcases Nat.lt_or_ge i n with hi|hi
  .rw [List.getElem?_append_left (by omega)]at hy;exact h2 i y hy
  .rw [List.getElem?_append_right (by omega)]at hy;have hlt:=(List.getElem?_eq_some_iff.1 hy).1;simp at hlt;have:i=n:=by omega
   subst this;rw [h1,Nat.sub_self]at hy;simp at hy;subst hy;exact hx
theorem cells_get {w:World}{a:Addr}{n:Nat}{vs:List Value}(h:w.cells? 0 a n=some vs):vs.length=n/\∀ j v,vs[j]? =some v->w.cell? (a.add j)=some v:=by
 unfold World.cells? at h;rw [if_pos (Nat.zero_le _)]at h;have h1:=mapM_some_length h;refine ⟨by simpa using h1,fun j v hj=>?_⟩;have hlt:j<n:=by
  have:=(List.getElem?_eq_some_iff.1 hj).1;simpa [h1]using this
 have:=mapM_some_get h j j (by simp [hlt]);rw [this,hj]
theorem cell_spot {w:World}{a:Addr}{v:Value}(h:w.cell? a=some v):a.spot=none:=by
 cases hs:a.spot with
 |none=>rfl
 |some q=>
  unfold World.cell? at h;split at h
  .rw [hs]at h;simp at h
  .simp at h
theorem ac6 {a:Addr}(h:a.spot=none)(n:Nat):a.add n=⟨a.block,a.off+n,none⟩:=by
 obtain⟨b,o,s⟩:=a;simp only at h;subst h;unfold Addr.add;split
 .rename_i hn;subst hn;rfl
 .rfl
theorem dec_slice {e:TypeId}{sz:Nat}{X:Type}{W:X->Prop}{en:X->List V}(ht:P.underlying t=some (.slice e))(hs:P.cellsOf e=sz)(hpos:0<sz)(he:Dec P (N-1) e W en):
 Dec P N t (fun xs:List X=>xs.length<=9223372036854775807/\∀ x∈xs,W x) (fun xs=>[.psl 0 sz (xs.map en)]):=
 fun H enc C w sp held fuel cs d hG hf h=>by
  rcases DataW.trod_slice ht h with ⟨rfl,_⟩|⟨a,len,cap,elems,rest,n,hfu,rfl,_,_,hlc,hcm,hlen,hel,_⟩
  .exact ⟨[],⟨by simp,by simp⟩,.cons (.psl0 none 0 0 sz) .nil⟩
  .rw [hs]at hel;have key:∀ i,i<len->∃ q:List Value×X,w.cells? 0 (a.add (i * sz)) sz=some q.1/\W q.2/\RepL C w q.1 (en q.2):=fun i hi=>by
    have h1:=hel i hi;have h2:∃ y,elems[i]? =some y:=⟨elems[i]'(by omega),List.getElem?_eq_getElem (by omega)⟩
    obtain⟨y,h2⟩:=h2;rw [h2,Option.bind_eq_some_iff]at h1;obtain ⟨vs,h3,h4⟩:=h1;obtain ⟨x,h5,h6⟩:=he H enc C w sp held n vs y hG (by omega) h4;exact ⟨(vs,x),h3,h5,h6⟩
   obtain⟨l,l1,l2⟩:=ad9 len key;refine ⟨l.map (·.2),⟨?_,fun x hx=>?_⟩,.cons ?_ .nil⟩
   .simp [maxLen]at hcm |-;omega
   .obtain ⟨q,hq,rfl⟩:=List.mem_map.1 hx;obtain ⟨i,hi⟩:=List.getElem?_of_mem hq;exact (l2 i q hi).2.1
   .rcases Nat.eq_zero_or_pos len with h0|h0
    .have:l=[]:=List.eq_nil_of_length_eq_zero (by omega);subst this;rw [h0];exact .psl0 (some a) cap 0 sz
    .obtain ⟨q0,hq0⟩:∃ q,l[0]? =some q:=⟨l[0]'(by omega),List.getElem?_eq_getElem (by omega)⟩
     obtain⟨c0,_⟩:=l2 0 q0 hq0;obtain ⟨n0,g0⟩:=cells_get c0;obtain ⟨v0,hv0⟩:∃ v,q0.1[0]? =some v:=⟨q0.1[0]'(by omega),List.getElem?_eq_getElem (by omega)⟩
     have hcell:=g0 0 v0 hv0;have hz:(a.add (0 * sz)).add 0=a:=by simp [Addr.add]
     rw [hz]at hcell;have hsp:=cell_spot hcell;have hblk:=World.block_lt_of_cell? w a hcell;have ha:a=⟨a.block,a.off,none⟩:=by
      obtain⟨b,o,s⟩:=a;simp only at hsp;subst hsp;rfl
     rw [ha];refine .psl (fun i=>(l.getD i ([],q0.2)).1) hG.lv hG.nx (hG.reg _ hblk) (by simp [l1]) hlc (fun i row hi=>?_) (fun i row hi=>?_);all_goals
      obtain⟨x,hx,rfl⟩:∃ x,(l.map (·.2))[i]? =some x/\en x=row:=by
       rw [List.getElem?_map,Option.map_eq_some_iff]at hi;exact hi
      obtain⟨q,hq,rfl⟩:∃ q,l[i]? =some q/\q.2=x:=by
       rw [List.getElem?_map,Option.map_eq_some_iff]at hx;exact hx
      have hq':l.getD i ([],q0.2)=q:=by simp [List.getD,hq]
      rw [hq'];obtain ⟨p1,p2,p3⟩:=l2 i q hq
     .obtain ⟨m1,m2⟩:=cells_get p1;refine ⟨m1,fun j v hj=>?_⟩;have:=m2 j v hj;rw [ac6 hsp,ac6 rfl]at this;exact this
     .exact p3
def DecF (P:Program)(N:Nat)(fs:List Field)(off:Nat){X:Type}(W:X->Prop)(e:X->List V):Prop:=
 ∀(H:Type) (enc:TypeId×Value->H) (C:Ctx) (w:World) (sp:Nat->Bool) (held:Bool) (fuel:Nat) (cs:List Value),
  Good C w->fuel<=N->(∀ f∈fs,∃ d,DataW.trod enc P w 0 sp held fuel f.type ((cs.drop f.offset).take (P.cellsOf f.type))=some d)->∃ x,W x/\∃ k,RepL C w ((cs.drop off).take k) (e x)/\k=fs.foldl (fun n f=>n+P.cellsOf f.type) 0
theorem af2 (P:Program):∀(fs:List Field) (n:Nat),fs.foldl (fun n f=>n+P.cellsOf f.type) n=n+fs.foldl (fun n f=>n+P.cellsOf f.type) 0
 | [],n=>rfl
 |f::fs,n=>by
  simp only [List.foldl_cons];rw [af2 P fs (n+_),af2 P fs (0+_)];omega
theorem ar8 {f:Field}{off:Nat}{X:Type}{W:X->Prop}{e:X->List V}(ho:f.offset=off)(h:Dec P N f.type W e):DecF P N [f] off W e:=
 fun H enc C w sp held fuel cs hG hf hd=>by
  obtain⟨d,hd⟩:=hd f (by simp);obtain ⟨x,h1,h2⟩:=h H enc C w sp held fuel _ d hG hf hd;exact ⟨x,h1,P.cellsOf f.type,by rw [<- ho];exact h2,by simp⟩
theorem dQ {f:Field}{fs:List Field}{off n:Nat}{X Y:Type}{W:X->Prop}{e:X->List V}{W':Y->Prop}{e':Y->List V}(ho:f.offset=off)(hn:P.cellsOf f.type=n)(h:Dec P N f.type W e)(h':DecF P N fs (off+n) W' e'):
 DecF P N (f::fs) off (fun p:X×Y=>W p.1/\W' p.2) (fun p=>e p.1++e' p.2):=
 fun H enc C w sp held fuel cs hG hf hd=>by
  obtain⟨d,hd0⟩:=hd f (by simp);obtain ⟨x,h1,h2⟩:=h H enc C w sp held fuel _ d hG hf hd0;obtain ⟨y,h3,k,h4,h5⟩:=h' H enc C w sp held fuel cs hG hf (fun g hg=>hd g (by simp [hg]));refine ⟨(x,y),⟨h1,h3⟩,n+k,?_,?_⟩
  .rw [ho,hn]at h2;have:=h2.append h4;have e1:(cs.drop off).take (n+k)=(cs.drop off).take n++(cs.drop (off+n)).take k:=by
    rw [List.take_add,List.drop_drop]
   rw [e1];exact this
  .simp only [List.foldl_cons];rw [af2,<- h5,hn];omega
theorem yC {fs:Array Field}{X:Type}{W:X->Prop}{e:X->List V}(ht:P.underlying t=some (.struct fs))(hsz:P.cellsOf t=fs.toList.foldl (fun n f=>n+P.cellsOf f.type) 0)(h:DecF P (N-1) fs.toList 0 W e):Dec P N t W e:=
 fun H enc C w sp held fuel cs d hG hf hd=>by
  obtain⟨xs,n,rfl,_,h2,h3,h4⟩:=DataW.trod_struct ht hd;obtain ⟨x,h5,k,h6,h7⟩:=h H enc C w sp held n cs hG (by omega) (fun f hf'=>by
   obtain⟨i,hi⟩:=List.getElem?_of_mem hf';have hi':fs[i]? =some f:=by simpa using hi
   have hlt:=(Array.getElem?_eq_some_iff.1 hi').1;exact ⟨xs[i]'(by omega),by rw [h4 i f hi'];exact List.getElem?_eq_getElem (by omega)⟩)
  refine⟨x,h5,?_⟩;rw [List.drop_zero,List.take_of_length_le (by omega)]at h6;exact h6
def DecA (P:Program)(t:TypeId){X:Type}(W:X->Prop)(e:X->V):Prop:=
 ∀(H:Type) (enc:TypeId×Value->H) (C:Ctx) (w:World) (base:Nat) (v:Value) (d:DataW H) (ps:List MemPlace),Good C w->Value.okWide P w .any base t v->DataW.Trod enc P w 0 (fun _=>true) true t v d ps->∃ x,W x/\Rep C w v (e x)
theorem decA_struct {fs:Array Field}{X:Type}{W:X->Prop}{e:X->List V}(ht:P.underlying t=some (.struct fs))(h:∀ N,Dec P N t W e):DecA P t W (fun x=>.agg (e x)):=
 fun H enc C w base v d ps hG hv hd=>by
  obtain⟨fuel,hd⟩:=hd;obtain ⟨x,h1,h2⟩:=h fuel H enc C w _ _ fuel _ _ hG (Nat.le_refl _) hd;unfold Value.okWide at hv;rw [ht]at hv;obtain ⟨cs,rfl,_⟩:=hv;exact ⟨x,h1,.agg h2⟩
end
def Ctx.start (w:World):Ctx:={ reg:=fun l b=>l=0/\b<w.heap.size,lv:=fun l=>l<=1,loc:=fun _=>none,nx:=12,sub:=fun _=>[] }
theorem start_good (w:World):Good (Ctx.start w) w:=⟨Nat.zero_le _,by show 0<12;omega,fun b h=>⟨rfl,h⟩⟩
open Go.ChangeShapes in
theorem post_true {H:Type}{enc:TypeId×Value->H}{P:Program}{f:Func}{s:ChangeSpec}{apart fresh handsOn:Bool}{W W':World}{args:Array Value}{v:Value}{ds:List (DataW H)}{before:List MemPlace}{tb:TypeId}
 (hW:DataW.Whole enc P f.params.toList s.vars apart W args.toList ds [] before) (hvars:s.vars=[])
 (hl:laidOutB P=true) (hr:f.params.toList.all (fun t=>P.readableRec t&&decide (t<P.types.size))=true)
 (hrt:f.resultTypes=#[tb]) (htb:P.underlying tb=some .bool)
 (hs:s.fn H (ds++[])={ results:=[.lit (.bool true)],args:=ds }) (A:Agree W W') (hv:v=.bool true):
 s.post enc P f apart fresh handsOn false W args v W':=by
 subst hv;obtain ⟨p,q,hA,hV,rfl,hfz,hnd⟩:=hW;rw [hvars]at hV;obtain ⟨_,rfl⟩:=trodVars_none hV;have hres:∀(b:Nat) (sp:Nat->Bool) (hd:Bool),DataW.TrodAll enc P W' b sp hd f.resultTypes.toList ((Value.bool true).resultList f.resultTypes.size) [.lit (.bool true)] []:=fun b sp hd=>by
  rw [hrt];exact trodAll_mk1 (RowKit.shut_bool htb true)
 have hargs:∀(ts:List TypeId) (vs:List Value) (ds:List (DataW H)) (p:List MemPlace),ts.all (fun t=>P.readableRec t&&decide (t<P.types.size))=true->DataW.TrodAll enc P W 0 (fun _=>true) true ts vs ds p->
  DataW.TrodAll enc P W' 0 (fun b=>decide (b<W.heap.size)) true ts vs ds p:=by
  intro ts;induction ts with
  |nil=>
   intro vs ds p _ h;obtain ⟨rfl,rfl,rfl⟩:=trodAll_nil h;exact rfl
  |cons t ts ih=>
   intro vs ds p hr h;obtain ⟨v,vs1,d,ds1,a,b,rfl,rfl,rfl,h1,h2⟩:=trodAll_cons h;simp only [List.all_cons,Bool.and_eq_true,decide_eq_true_eq]at hr;have hlt:∀ x∈a,x.block<W.heap.size:=fun x hx=>by
    obtain⟨n,hn⟩:=h1;exact DataW.trod_lt _ _ _ _ hn x hx
   refine⟨a,b,?_,ih vs1 ds1 b (by simpa using hr.2) h2,rfl⟩;refine WideElems.Trod_stays hl hr.1.1 hr.1.2 h1 (fun x hx=>?_) (fun x hx=>by simpa using hlt x hx);have:=A.heap x.block (hlt x hx);cases x with
   |cell b o=>exact U5 (by simpa [MemPlace.block]using this) o
   |map b=>simpa [MemPlace.block,World.sameAt]using this
 refine⟨ds,[],p++[],[],p,[],⟨p,[],hA,hvars ▸ rfl,rfl,hfz,hnd⟩,?_,?_,?_,?_,fun h=>by cases h⟩
 .rw [hs];exact hres _ _ _
 .rw [hs];exact hargs _ _ _ _ hr hA
 .rw [hs,hvars];exact rfl
 .refine ⟨A.os,A.out,fun i hi=>?_⟩;rw [A.heap i hi];split
  .rename_i h1 h2;rw [h1]at h2;simp only [Option.some.injEq,Obj.cells.injEq]at h2;obtain ⟨rfl,rfl,rfl⟩:=h2;exact ⟨rfl,rfl,rfl,fun _ _=>rfl⟩
  .rename_i h1 h2;rw [h1]at h2;simp only [Option.some.injEq,Obj.map.injEq]at h2;exact .inr ⟨h2.1.symm,h2.2.symm⟩
  .rfl
theorem law_calls {P:Program}{f:FuncId}{xs:List V}{W:World}{args:Array Value}(hc:FC P f xs [] 12 (fun x _=>x=.bool true))(hargs:RepL (Ctx.start W) W args.toList xs)(hT:∀ b,tabAt b=true->b<W.heap.size/\tabIs b W.heap[b]? :=by exact fun b hb=>Bool.noConfusion hb):
 Calls P f args W (fun e W'=>∃ v,e=.returned v/\v=.bool true/\Agree W W'):=by
 refine(hc.2 (Ctx.start W) W args rfl (pR (Ctx.start W) W (fun b h=>h) hT) hargs).mono ?_;rintro e W' ⟨v,C',r,h',rfl,_,h3,h4,rfl⟩;refine ⟨v,rfl,?_,fL (C:=Ctx.start W) (G:=(·<W.heap.size)) h4⟩;cases h3;rfl
end Go.Abs

namespace Go.Abs
def isDigit (b:UInt8):Bool:=decide (48<=(b.toNat:Int))&&decide ((b.toNat:Int)<=57)
def markOdd:LI:=[33,63,42,60,62,61,47,43,45,46,95]
def markTab:LB:=[33,63,42,60,62,61,47,43,45,46,95]
def markB (b:UInt8):Bool:=(decide (97<=(b.toNat:Int))&&decide ((b.toNat:Int)<=122))||isDigit b||markOdd.contains (b.toNat:Int)
theorem markTab_any (n:Int):(markTab.any fun c=>decide (((c.toNat:Nat):Int)=n))=markOdd.contains n:=by
 simp [markTab,markOdd,eq_comm]
def headBad (l:LB):Bool:=decide ((l.length:Int)<1)||decide ((l.length:Int)>16)||isDigit (l.getD 0 0)||
 (decide (((l.getD 0 0).toNat:Int)=45)&&decide ((l.length:Int)>1)&&isDigit (l.getD 1 0))
def isSymbol (l:LB):Bool:=!headBad l&&l.all markB
def inside (a b c:Int):Bool:=decide (b<=a)&&decide (a<=c)
def badChar (b:UInt8):Bool:=decide ((b.toNat:Int)<32)||decide ((b.toNat:Int)>126)||decide ((b.toNat:Int)=34)
def isText (l:LB):Bool:=decide ((l.length:Int)<=20)&&l.all fun b=>!badChar b
theorem ae7 {α:Type}{d:α}{l:List α}{i:Nat}(h:i<l.length):l.drop i=l.getD i d::l.drop (i+1):=by
 rw [List.drop_eq_getElem_cons h];simp [List.getD,List.getElem?_eq_getElem h]
structure PVal where
 kind:Int
 number:Int
 text:LB
 deriving DecidableEq,Inhabited
structure PPair where
 h:PVal
 t:PVal
 deriving DecidableEq,Inhabited
end Go.Abs
