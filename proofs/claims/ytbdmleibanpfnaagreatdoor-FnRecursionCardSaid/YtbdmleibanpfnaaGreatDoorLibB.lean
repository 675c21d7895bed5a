/-
  What a function's code comes to,as a residual term: 'den'. Slots are known by the text;variables whose address stays in the function are kept cell by cell.
-/
import Derived.WalkKit
import Derived.Test.YtbdmleibanpfnaaGreatDoorLibA
import Derived.Lib.ItoaNum
import Derived.KernelRfl
import Derived.Laws.Cover3
import Derived.Laws.Pointers
set_option linter.all false
namespace Go.X1
inductive TK where
  |int (k:IntKind)
  |bool
  |str
  |slice (e:Nat)
  |ptr (e:Nat)
  |struct (fs:List (Nat×Nat))
  |map (k e:Nat)
  |iface
  |arr (n e:Nat)
  |other
structure TI where
  kind:TK
  size:Nat
  agg:Bool
  zero:List A
def encB:List UInt8→Nat
  | []=>0
  |b::r=>b.toNat+encB r * 256
def iA (k:IntKind)(n:Int):A:=match k with
  |.i64=>(match n+9223372036854775808 with |.ofNat m=>.int m|.negSucc _=>junk)
  |.u8=>(match n with |.ofNat m=>bif Nat.blt m 256 then .byt m else junk|.negSucc _=>junk)
  |_=>junk
def oneA:A→Bool
  |.int _=>true
  |.byt _=>true
  |.bool _=>true
  |.str _ _=>true
  |.ref _ _ _ _=>true
  |.nd g _=>Nat.ble 100 g
  |_=>false
def oneV:Value→Bool
  |.agg _=>false
  |.tuple _=>false
  |_=>true
mutual
def cvA:Value→A
  |.int k n=>iA k n
  |.bool b=>.bool b
  |.string s=>.str s.data.toList.length (encB s.data.toList)
  |.slice none 0 0=>.ref 3 0 0 0
  |.pointer none=>.ref 4 0 0 0
  |.map none=>.ref 5 0 0 0
  |.nilIface=>.ref 6 0 0 0
  |.nilFunc=>.ref 9 0 0 0
  |.agg ⟨vs⟩=>bif vs.all oneV then .nd 0 (cvL vs)else junk
  |.tuple ⟨vs⟩=>.nd 1 (cvL vs)
  |.func (.func f) ⟨[]⟩ ⟨vs⟩=>.nd (100+f) (cvL vs)
  |_=>junk
def cvL:List Value→A
  | []=>.nl
  |v::vs=>.cn (cvA v) (cvL vs)
end
inductive S where
  |v (a:A)
  |p (b o:Nat)
  |pg (g:Nat) (w:Bool) (b o:Nat)
structure E where
  tm:List (Nat×S)
  cl:List ((Nat×Nat)×A)
  pb:List (Nat×Nat)
inductive Key where
  |t (n:Nat)
  |c (b i:Nat)
  |b (n sz:Nat)
structure Cx where
  T:List TI
  pv:List Nat
  lc:List (Nat×List Key)
  lb:List (Nat×List Key)
  ll:List (Nat×List Key)
  rs:List ResultVar
  pu:List Nat
  nt:Nat
  dr:List (Nat×List Nat)
def eget:List (Nat×S)→Nat→S
  | [],_=>.v junk
  |(k,s)::r,i=>bif Nat.beq i k then s else eget r i
def cget:List ((Nat×Nat)×A)→Nat→Nat→A
  | [],_,_=>junk
  |((b,o),x)::r,i,j=>bif Nat.beq i b&&Nat.beq j o then x else cget r i j
def hasN:List Nat→Nat→Bool
  | [],_=>false
  |x::r,i=>Nat.beq i x||hasN r i
def bget:List (Nat×Nat)→Nat→Option Nat
  | [],_=>none
  |(b,n)::r,i=>bif Nat.beq i b then some n else bget r i
def bhas (l:List (Nat×Nat))(b o n:Nat):Bool:=match bget l b with |some m=>Nat.ble (o+n) m|none=>false
def lkp:List (Nat×List Key)→Nat→Option (List Key)
  | [],_=>none
  |(k,l)::r,i=>bif Nat.beq i k then some l else lkp r i
def sval (s:S):A:=match s with |.v a=>a|_=>junk
def val (env:E):Operand→A
  |.tmp t=>sval (eget env.tm t)
  |.const v=>cvA v
  |.func f=>.nd (100+f) .nl
  |.global _=>junk
def vals (ρ:Operand→A):List Operand→A
  | []=>.nl
  |x::r=>.cn (ρ x) (vals ρ r)
def put (env:E)(d:Option Nat)(s:S):E:=match d with
  |none=>env
  |some d=>⟨(d,s)::env.tm,env.cl,env.pb⟩
def notBase (b:Nat)(x:Nat×S):Bool:=match x.2 with |.v _=>true|.p c _=>!Nat.beq c b|.pg _ _ c _=>!Nat.beq c b
def setCl (b:Nat):Nat→List A→List ((Nat×Nat)×A)→List ((Nat×Nat)×A)
  |_,[],l=>l
  |i,x::xs,l=>((b,i),x)::setCl b (i+1) xs l
def fresh (env:E)(d:Nat):Bool:=(match bget env.pb d with |none=>true|some _=>false)&&env.tm.all (notBase d)
def newB (env:E)(d:Nat)(cs:List A):E:=⟨(d,.p d 0)::env.tm,setCl d 0 cs env.cl,(d,cs.length)::env.pb⟩
def ptrOf (env:E)(g:Option (Nat×Bool)):Operand→Option (Nat×Nat)
  |.tmp t=>match eget env.tm t with
    |.p b o=>some (b,o)
    |.pg h w b o=>match g with
      |some (h',w')=>bif Nat.beq h h'&&(w == w')then some (b,o)else none
      |none=>none
    |.v _=>none
  |_=>none
def isP (env:E):Operand→Bool
  |.tmp t=>match eget env.tm t with |.v _=>false|_=>true
  |_=>false
def cellsAt (env:E)(b o:Nat):Nat→A
  |0=>.nl
  |n+1=>.cn (cget env.cl b o) (cellsAt env b (o+1) n)
def tget? (T:List TI)(t:Nat):TI:=(T[t]?).getD ⟨.other,0,false,[]⟩
def nz (T:List TI)(t:Nat):Bool:=match (tget? T t).size with |0=>false|_=>true
def sz1 (T:List TI)(t:Nat):Bool:=match (tget? T t).size with |1=>true|_=>false
def fieldOf (T:List TI)(t k:Nat):Option (Nat×Nat):=match (tget? T t).kind with |.struct fs=>fs[k]? |_=>none
def elemOf (T:List TI)(t:Nat):Option Nat:=match (tget? T t).kind with |.slice e=>some e|_=>none
def elemZ (T:List TI)(t:Nat):Option Nat:=match elemOf T t with |some e=>bif nz T e then some e else none|none=>none
def tid {α:Type}(a:α):α:=kon a h10
noncomputable def bb (c:Bool) (a b:R):R:=kon (@Bool.rec (fun _=>R) b a c) h10
def selfD (o:Oper)(d:Nat):Bool:=match o.dst with |some e=>Nat.beq d e|none=>false
def guardOf (ops:List Oper)(o:Oper):Option (Option (Nat×Bool)):=match o.guard with
  |none=>some none
  |some (j,w)=>match (ops[j]?).bind (·.dst)with
    |some d=>bif selfD o d then none else some (some (d,w))
    |none=>none
noncomputable section
def gen (gu:Option (Nat×Bool))(d:Option Nat)(env:E)(h:H)(F:H→(A→H→R)→R)(K:E→H→R):R:=tid<|match gu with
  |none=>F h fun v h=>K (put env d (.v v)) h
  |some (g,w)=>oGrd (sval (eget env.tm g)) w h (F h) fun v h=>K (put env d (.v v)) h
def putV (gu:Option (Nat×Bool))(d:Option Nat)(env:E)(a:A):E:=match gu with
  |none=>put env d (.v a)
  |some (g,w)=>put env d (.v (gsel (sval (eget env.tm g)) w a))
def putP (gu:Option (Nat×Bool))(d:Option Nat)(env:E)(b o:Nat):E:=match gu with
  |none=>put env d (.p b o)
  |some (g,w)=>put env d (.pg g w b o)
def unl:Nat→A→(List A→R)→R
  |0,_,k=>tid (k [])
  |n+1,l,k=>tid<|oCn l fun x r=>unl n r fun xs=>k (x::xs)
def oSpl (n:Nat)(v:A)(c:A→R):R:=tid<|oNd v fun g l=>oCk (Nat.beq g (nat_lit 0)) (oCk (Nat.beq (llen l) n) (c l))
def lA:List A→A
  | []=>.nl
  |x::xs=>.cn x (lA xs)
def fill (z:List A):List (Nat×Nat×Bool×A)→Nat→(A→R)→R
  | [],i,c=>tid<|c (lA (z.drop i))
  |(o,n,g,v)::ps,i,c=>bb (Nat.ble i o&&Nat.ble (o+n) z.length) (bb g (oSpl n v fun l=>fill z ps (o+n) fun r=>c (lapp (lA ((z.drop i).take (o-i))) (lapp l r)))
      (bb (Nat.beq n 1) (oOne v (fill z ps (o+n) fun r=>c (lapp (lA ((z.drop i).take (o-i))) (.cn v r)))) .bad)) .bad
def partsS (T:List TI)(t:Nat)(ρ:Operand→A):List (Nat×Operand)→Option (List (Nat×Nat×Bool×A))
  | []=>some []
  |(k,x)::r=>match fieldOf T t k,partsS T t ρ r with
    |some (o,ft),some l=>some ((o,(tget? T ft).size,(tget? T ft).agg,ρ x)::l)
    |_,_=>none
def partsE (sz:Nat)(ag:Bool)(ρ:Operand→A):List (Nat×Operand)→List (Nat×Nat×Bool×A)
  | []=>[]
  |(k,x)::r=>(k * sz,sz,ag,ρ x)::partsE sz ag ρ r
def kdOf (T:List TI)(t:Nat):Option Nat:=match (tget? T t).kind with |.int .i64=>some 0|.int .u8=>some 1|.str=>some 99|.arr 2 e=>(match (tget? T e).kind with |.str=>bif sz1 T e then some 97 else none|_=>none)|_=>none
def repZ (z:List A):Nat→List A
  |0=>[]
  |n+1=>z++repZ z n
def binF (T:List TI)(op:BinOp)(t:Nat)(x y:Operand)(a b:A)(c:A→R):R:=tid<|match (tget? T t).kind with
  |.int .i64=>(match op with
    |.add=>oAdd a b c
    |.sub=>oSub a b c
    |.mul=>oMul a b c
    |.quo=>oQuo a b c
    |.rem=>oRem a b c
    |.lss=>oLt a b c
    |.leq=>oLe a b c
    |.gtr=>oLt b a c
    |.geq=>oLe b a c
    |.eql=>oEqI a b c
    |.neq=>oNeI a b c
    |_=>.bad)
  |.int .u8=>(match op with
    |.add=>bAdd a b c
    |.sub=>bSub a b c
    |.lss=>bLt a b c
    |.leq=>bLe a b c
    |.gtr=>bLt b a c
    |.geq=>bLe b a c
    |.eql=>bEq a b c
    |.neq=>bNe a b c
    |_=>.bad)
  |.str=>(match op with
    |.add=>oSCat a b c
    |.eql=>oEqS a b c
    |.neq=>oNeS a b c
    |_=>.bad)
  |.bool=>(match op with
    |.eql=>oEqB a b c
    |.neq=>oNeB a b c
    |_=>.bad)
  |k=>match op,y with
    |.eql,.const v=>nilF k v false a c
    |.neq,.const v=>nilF k v true a c
    |_,_=>.bad
where nilF (k:TK) (v:Value) (neg:Bool) (a:A) (c:A→R):R:=tid<|match k,v with
    |.slice _,.slice none 0 0=>oNil 3 10 1000 neg a c
    |.ptr _,.pointer none=>oNil 4 1 1 neg a c
    |.map _ _,.map none=>oNil 5 2 2 neg a c
    |.iface,.nilIface=>oNil 6 7 7 neg a c
    |_,_=>.bad
def builtinF (T:List TI)(b:Builtin)(ts:List Nat)(as:List A)(h:H)(c:A→H→R):R:=tid<|match b,ts,as with
  |.len,[t],[a]=>(match (tget? T t).kind with
    |.str=>oSLen a fun v=>c v h
    |.slice _=>oLen a fun v=>c v h
    |.map _ _=>oMLen a h fun v=>c v h
    |_=>.bad)
  |.append,[t,t'],[a,x]=>(match elemZ T t,(tget? T t').kind with
    |some e,.slice _=>oApp (tget? T e).size a x h c
    |some e,.str=>bb (Nat.beq (tget? T e).size 1) (oAppS a x h c) .bad
    |_,_=>.bad)
  |.copy,[t,t'],[a,x]=>(match elemZ T t,(tget? T t').kind with
    |some e,.slice _=>oCopy (tget? T e).size a x h c
    |_,_=>.bad)
  |.max,_,[a,b]=>oMax a b fun v=>c v h
  |.min,_,[a,b]=>oMin a b fun v=>c v h
  |_,_,_=>.bad
def lvals (ρ:Operand→A):List Operand→List A
  | []=>[]
  |x::r=>ρ x::lvals ρ r
def opF (Γ:Cx)(k:K)(ρ:Operand→A)(o:Op)(h:H)(c:A→H→R):R:=tid<|match o with
  |.pick x a b=>oPick (ρ x) (ρ a) (ρ b) fun v=>c v h
  |.alloc e=>bb (nz Γ.T e&&(tget? Γ.T e).zero.all oneA) (oNew (lA (tget? Γ.T e).zero) h c) .bad
  |.box e x=>bb (nz Γ.T e) (bb (tget? Γ.T e).agg (oNewV (ρ x) h c) (oOne (ρ x) (oNew (.cn (ρ x) .nl) h c))) .bad
  |.build t ⟨ps⟩=>(match (tget? Γ.T t).kind,partsS Γ.T t ρ ps with
    |.struct _,some l=>bb ((tget? Γ.T t).zero.all oneA&&match (tget? Γ.T t).zero with | []=>false|_=>true) (fill (tget? Γ.T t).zero l 0 fun r=>c (.nd 0 r) h) .bad
    |.arr _ e,_=>bb (nz Γ.T e&&(tget? Γ.T t).zero.all oneA&&match (tget? Γ.T t).zero with | []=>false|_=>true) (fill (tget? Γ.T t).zero (partsE (tget? Γ.T e).size (tget? Γ.T e).agg ρ ps) 0 fun r=>c (.nd 0 r) h) .bad
    |_,_=>.bad)
  |.buildSlice t n ⟨ps⟩=>(match elemZ Γ.T t with
    |some e=>bb ((tget? Γ.T e).zero.all oneA&&Nat.ble (n * (tget? Γ.T e).size) 16777216) (fill (repZ (tget? Γ.T e).zero n) (partsE (tget? Γ.T e).size (tget? Γ.T e).agg ρ ps) 0 fun r=>oBSl (tget? Γ.T e).size n r h c) .bad
    |none=>.bad)
  |.load t x=>bb (nz Γ.T t) (bb (tget? Γ.T t).agg (oLdN (tget? Γ.T t).size (ρ x) h fun v=>c v h) (oLd (ρ x) h fun v=>c v h)) .bad
  |.store t x v=>bb (nz Γ.T t) (bb (tget? Γ.T t).agg (oStN (tget? Γ.T t).size (ρ x) (ρ v) h fun h=>c und h) (bb (sz1 Γ.T t) (oSt (ρ x) (ρ v) h fun h=>c und h) .bad)) .bad
  |.nilCheck x=>oDeref (ρ x) fun v=>c v h
  |.binOp op t x y _=>binF Γ.T op t x y (ρ x) (ρ y) fun v=>c v h
  |.unOp .not _ x=>oNot (ρ x) fun v=>c v h
  |.unOp .neg t x=>(match (tget? Γ.T t).kind with
    |.int .i64=>oSub (.int 9223372036854775808) (ρ x) fun v=>c v h
    |_=>.bad)
  |.convert s d x=>(match (tget? Γ.T s).kind,(tget? Γ.T d).kind with
    |.int .i64,.int .i64=>oI2I (ρ x) fun v=>c v h
    |.int .u8,.int .i64=>oB2I (ρ x) fun v=>c v h
    |.int .i64,.int .u8=>oI2B (ρ x) fun v=>c v h
    |.int .u8,.int .u8=>oB2B (ρ x) fun v=>c v h
    |.str,.str=>oStr (ρ x) fun _ _=>c (ρ x) h
    |.slice e,.str=>(match (tget? Γ.T e).kind with |.int .u8=>oB2S (ρ x) h fun v=>c v h|_=>.bad)
    |_,_=>.bad)
  |.makeFunc (.func f) ⟨[]⟩ ⟨cs⟩=>c (.nd (100+f) (vals ρ cs)) h
  |.makeSlice t n m=>(match elemZ Γ.T t with
    |some e=>bb ((tget? Γ.T e).zero.all oneA) (oMk2 (tget? Γ.T e) (ρ n) (ρ m) h c) .bad
    |none=>.bad)
  |.slice t x lo hi none=>(match (tget? Γ.T t).kind with
    |.str=>(match hi with
      |some hi=>oSSl (ρ x) (loV ρ lo) (ρ hi) fun v=>c v h
      |none=>oSLen (ρ x) fun n=>oSSl (ρ x) (loV ρ lo) n fun v=>c v h)
    |.slice e=>(match hi with
      |some hi=>bb (nz Γ.T e) (oSl (tget? Γ.T e).size (ρ x) (loV ρ lo) (ρ hi) fun v=>c v h) .bad
      |none=>bb (nz Γ.T e) (oLen (ρ x) fun n=>oSl (tget? Γ.T e).size (ρ x) (loV ρ lo) n fun v=>c v h) .bad)
    |_=>.bad)
  |.fieldAddr t x f=>(match fieldOf Γ.T t f with
    |some (o,ft)=>bb (nz Γ.T ft) (oFld o (ρ x) fun v=>c v h) .bad
    |none=>.bad)
  |.indexAddr t x i=>(match elemZ Γ.T t with
    |some e=>oIdx (tget? Γ.T e).size (ρ x) (ρ i) fun v=>c v h
    |none=>.bad)
  |.index t x i=>(match (tget? Γ.T t).kind with
    |.str=>oSIdx (ρ x) (ρ i) fun v=>c v h
    |_=>.bad)
  |.makeMap t none=>(match (tget? Γ.T t).kind with
    |.map k _=>(match kdOf Γ.T k with |some kd=>oMkM kd h c|none=>.bad)
    |_=>.bad)
  |.lookup t m i ok=>(match (tget? Γ.T t).kind with
    |.map k e=>(match kdOf Γ.T k,(tget? Γ.T e).zero with
      |some kd,[z]=>bb (tget? Γ.T e).agg .bad (bb ok (oLookK kd z (ρ m) (ρ i) h fun v=>c v h) (oLook kd z (ρ m) (ρ i) h fun v=>c v h))
      |_,_=>.bad)
    |_=>.bad)
  |.mapUpdate t m i v=>(match (tget? Γ.T t).kind with
    |.map k _=>(match kdOf Γ.T k with |some kd=>oMUp kd (ρ m) (ρ i) (ρ v) h fun h=>c und h|none=>.bad)
    |_=>.bad)
  |.insert t m i v=>(match (tget? Γ.T t).kind with
    |.map k _=>(match kdOf Γ.T k with |some kd=>oMUp kd (ρ m) (ρ i) (ρ v) h fun h=>c und h|none=>.bad)
    |_=>.bad)
  |.extract x i=>oExt i (ρ x) fun v=>c v h
  |.call ⟨.builtin b,⟨as⟩,⟨ts⟩⟩=>builtinF Γ.T b ts (lvals ρ as) h c
  |.call ⟨.value (.func f),⟨as⟩,_⟩=>bb (hasN Γ.pu f) (oCallP k f (vals ρ as) h c) (oCall k f (vals ρ as) h c)
  |.call ⟨.value x,⟨as⟩,_⟩=>oCallV k (ρ x) (vals ρ as) h c
  |_=>.bad
where
  loV (ρ:Operand→A) (x:Option Operand):A:=match x with |some x=>ρ x|none=>.int 9223372036854775808
  oMk2 (ti:TI) (n m:A) (h:H) (c:A→H→R):R:=tid<|oInt n fun a=>oInt m fun b=>oCk (Nat.beq a b) (oMk ti.size (lA ti.zero) n h c)
inductive Ac where
  |op
  |no
  |rd (b:Nat)
  |wr (b:Nat)
def dop (Γ:Cx)(k:K)(gu:Option (Nat×Bool))(o:Oper)(env:E)(h:H)(K:E→H→Ac→R):R:=tid<|
  match o.op with
  |.move x|.assign x=>bb (isP env x)
      (match ptrOf env gu x with |some (b,f)=>K (putP gu o.dst env b f) h .no|none=>.bad)
      (K (putV gu o.dst env (val env x)) h .no)
  |.nilCheck x=>bb (isP env x)
      (match ptrOf env gu x with |some (b,f)=>K (putP gu o.dst env b f) h .no|none=>.bad)
      (gen gu o.dst env h (opF Γ k (val env) (.nilCheck x)) fun e h=>K e h .op)
  |.fieldAddr t x f=>bb (isP env x)
      (match ptrOf env gu x,fieldOf Γ.T t f with |some (b,q),some (r,ft)=>bb (nz Γ.T ft) (K (putP gu o.dst env b (q+r)) h .no) .bad|_,_=>.bad)
      (gen gu o.dst env h (opF Γ k (val env) (.fieldAddr t x f)) fun e h=>K e h .op)
  |.load t x=>bb (isP env x)
      (match ptrOf env gu x with
       |some (b,q)=>bb (nz Γ.T t&&bhas env.pb b q (tget? Γ.T t).size) (K (putV gu o.dst env (bif (tget? Γ.T t).agg then .nd 0 (cellsAt env b q (tget? Γ.T t).size)else cget env.cl b q)) h (.rd b)) .bad
       |none=>.bad)
      (gen gu o.dst env h (opF Γ k (val env) (.load t x)) fun e h=>K e h .op)
  |.alloc e=>(match gu,o.dst with
    |none,some d=>bb (hasN Γ.pv d) (bb (nz Γ.T e&&(tget? Γ.T e).zero.all oneA&&fresh env d) (K (newB env d (tget? Γ.T e).zero) h (.wr d)) .bad) (gen none (some d) env h (opF Γ k (val env) (.alloc e)) fun e h=>K e h .op)
    |gu,d=>gen gu d env h (opF Γ k (val env) (.alloc e)) fun e h=>K e h .op)
  |.box e x=>(match gu,o.dst with
    |none,some d=>bb (hasN Γ.pv d)
        (bb (nz Γ.T e&&fresh env d) (bb (tget? Γ.T e).agg (oNd (val env x) fun g l=>oCk (Nat.beq g (nat_lit 0)) (unl (tget? Γ.T e).size l fun cs=>K (newB env d cs) h (.wr d))) (oOne (val env x) (K (newB env d [val env x]) h (.wr d)))) .bad)
        (gen none (some d) env h (opF Γ k (val env) (.box e x)) fun e h=>K e h .op)
    |gu,d=>gen gu d env h (opF Γ k (val env) (.box e x)) fun e h=>K e h .op)
  |.store t x v=>bb (isP env x)
      (match gu,o.dst,ptrOf env gu x with
       |none,none,some (b,q)=>bb (nz Γ.T t&&bhas env.pb b q (tget? Γ.T t).size) (bb (tget? Γ.T t).agg
           (oNd (val env v) fun g l=>oCk (Nat.beq g (nat_lit 0)) (oCk (Nat.beq (llen l) (tget? Γ.T t).size) (unl (tget? Γ.T t).size l fun cs=>K ⟨env.tm,setCl b q cs env.cl,env.pb⟩ h (.wr b))))
           (bb (sz1 Γ.T t) (oOne (val env v) (K ⟨env.tm,((b,q),val env v)::env.cl,env.pb⟩ h (.wr b))) .bad)) .bad
       |_,_,_=>.bad)
      (gen gu o.dst env h (opF Γ k (val env) (.store t x v)) fun e h=>K e h .op)
  |op=>gen gu o.dst env h (opF Γ k (val env) op) fun e h=>K e h .op
def gOk (dn:List Nat)(gu:Option (Nat×Bool)):Bool:=match gu with |none=>true|some (g,_)=>hasN dn g
def addD (o:Oper)(dn:List Nat):List Nat:=match o.dst with |some d=>d::dn|none=>dn
def dops (Γ:Cx)(k:K)(ops:List Oper):List Nat→List Oper→E→H→(E→H→R)→R
  |_,[],env,h,K=>tid<|K env h
  |dn,o::r,env,h,K=>match guardOf ops o with
    |some gu=>bb (gOk dn gu) (dop Γ k gu o env h fun env h _=>dops Γ k ops (addD o dn) r env h K) .bad
    |none=>tid .bad
inductive Kd where
  |v
  |l
  |p
  |n
  |m
def kindOf (T:List TI)(pu:List Nat):Op→Kd
  |.load ..=>.l
  |.lookup ..=>.l
  |.convert s d _=>match (tget? T s).kind,(tget? T d).kind with
    |.slice _,.str=>.l
    |.str,.slice _=>.n
    |_,_=>.v
  |.alloc ..|.box ..|.buildSlice ..|.makeMap ..|.makeSlice ..=>.n
  |.store ..|.mapUpdate ..|.insert ..=>.m
  |.call ⟨.builtin .len,_,⟨[t]⟩⟩=>match (tget? T t).kind with
    |.map _ _=>.l
    |_=>.v
  |.call ⟨.builtin .append,_,_⟩|.call ⟨.builtin .copy,_,_⟩=>.m
  |.call ⟨.builtin _,_,_⟩=>.v
  |.call ⟨.value (.func f),_,_⟩=>match hasN pu f with |true=>.p|false=>.m
  |.call ..=>.m
  |_=>.v
def deps (o:Oper):List Nat:=o.after.toList.filterMap fun e=>if Region.binds .any e then some e.on else none
def bit (m j:Nat):Bool:=Nat.beq (Nat.land (Nat.shiftRight m j) 1) 1
def maskD (ms:List Nat):List Nat→Nat
  | []=>0
  |k::r=>Nat.lor (Nat.lor (Nat.shiftLeft 1 k) (ms[k]?.getD 0)) (maskD ms r)
def masks:List Oper→List Nat→List Nat
  | [],ms=>ms
  |o::r,ms=>masks r (ms++[maskD ms (deps o)])
def opSlots (o:Op):List Nat:=o.operands.toList.filterMap fun|.tmp t=>some t|_=>none
structure DL where
  ds:List Nat
  dn:List Nat
  ms:List (Nat×H)
  ps:List Nat
  rs:List (Nat×(H→R→R))
  ac:List (Nat×Nat×Bool)
def anc (ms:List Nat)(i j:Nat):Bool:=bit (ms[i]?.getD 0) j
def okSlots (ops:List Oper)(ms:List Nat)(ds:List Nat)(i:Nat)(ts:List Nat):Bool:=
  (List.range ops.length).all fun j=>match (ops[j]?).bind (·.dst)with
    |none=>true
    |some d=>!hasN ts d||(bif hasN ds j then anc ms i j else anc ms j i)
def okAc (ms:List Nat)(i b:Nat)(w:Bool)(ac:List (Nat×Nat×Bool)):Bool:=ac.all fun x=>!Nat.beq x.2.1 b||!(w||x.2.2)||anc ms i x.1
def rerun (Γ:Cx)(k:K)(gu:Option (Nat×Bool))(o:Oper)(env:E)(v:A)(h:H)(r:R):R:=tid<|match gu with
  |none=>opF Γ k (val env) o.op h fun x _=>oCk (eqA x v) r
  |some (g,w)=>oGrd (sval (eget env.tm g)) w h (fun kk=>opF Γ k (val env) o.op h fun x h=>oCk (eqA x v) (kk x h)) fun _ _=>r
def again1 (ms:List Nat)(i:Nat)(f:H→R→R):List (Nat×H)→R→R
  | [],r=>r
  |(j,h)::l,r=>bif anc ms i j then again1 ms i f l r else f h (again1 ms i f l r)
def again2 (ms:List Nat)(i:Nat)(h:H):List (Nat×(H→R→R))→R→R
  | [],r=>r
  |(j,f)::l,r=>bif anc ms i j then again2 ms i h l r else f h (again2 ms i h l r)
def dval (o:Oper)(env:E):A:=match o.dst with |some d=>sval (eget env.tm d)|none=>junk
def plainSt (env:E)(o:Oper):Option Operand:=match o.op,o.dst,o.guard with
  |.store _ x _,none,none=>match isP env x with |true=>none|false=>some x
  |_,_,_=>none
def twinF (ops:List Oper)(ms:List Nat)(i:Nat)(r:List Nat)(lg:DL)(o:Oper)(env:E)(c:Nat→R):R:=tid<|match r,lg.ms,lg.ds,plainSt env o with
  | [],(j,_)::rest,j'::ds,some x=>match (ops[j]?).bind (plainSt env)with
    |some y=>bb (Nat.beq j j'&&rest.all (fun q=>anc ms i q.1)&&lg.rs.all (fun q=>anc ms i q.1&&anc ms j q.1)&&Nat.beq (ds.length+2) ops.length&&!hasN (deps o) j)
        (oPt (val env x) fun b _=>oPt (val env y) fun d _=>@Bool.rec (fun _=>R) (c 0) .bad (Nat.beq b d)) .bad
    |none=>.bad
  |_,_,_,_=>.bad
def drun (Γ:Cx)(k:K)(ops:List Oper)(ms:List Nat):List Nat→DL→E→H→(E→H→R)→R
  | [],lg,env,h,K=>bb (Nat.beq lg.ds.length ops.length) (K env h) .bad
  |i::r,lg,env,h,K=>match ops[i]? with
    |none=>tid .bad
    |some o=>match guardOf ops o with
      |none=>tid .bad
      |some gu=>bb (!hasN lg.ds i&&gOk lg.dn gu&&(deps o).all (hasN lg.ds)&&okSlots ops ms lg.ds i (opSlots o.op++match gu with |some (g,_)=>[g]|none=>[]))
        (dop Γ k gu o env h fun env' h' ac=>match ac with
          |.no=>drun Γ k ops ms r ⟨i::lg.ds,addD o lg.dn,lg.ms,lg.ps,lg.rs,lg.ac⟩ env' h' K
          |.rd b=>bb (okAc ms i b false lg.ac) (drun Γ k ops ms r ⟨i::lg.ds,addD o lg.dn,lg.ms,lg.ps,lg.rs,(i,b,false)::lg.ac⟩ env' h' K) .bad
          |.wr b=>bb (okAc ms i b true lg.ac) (drun Γ k ops ms r ⟨i::lg.ds,addD o lg.dn,lg.ms,lg.ps,lg.rs,(i,b,true)::lg.ac⟩ env' h' K) .bad
          |.op=>match kindOf Γ.T Γ.pu o.op with
            |.v=>drun Γ k ops ms r ⟨i::lg.ds,addD o lg.dn,lg.ms,lg.ps,lg.rs,lg.ac⟩ env' h' K
            |.l=>again1 ms i (rerun Γ k gu o env (dval o env')) lg.ms (drun Γ k ops ms r ⟨i::lg.ds,addD o lg.dn,lg.ms,lg.ps,(i,rerun Γ k gu o env (dval o env'))::lg.rs,lg.ac⟩ env' h' K)
            |.p=>again1 ms i (rerun Γ k gu o env (dval o env')) lg.ms (drun Γ k ops ms r ⟨i::lg.ds,addD o lg.dn,lg.ms,i::lg.ps,(i,rerun Γ k gu o env (dval o env'))::lg.rs,lg.ac⟩ env' h' K)
            |.n=>bb (lg.ps.all fun j=>anc ms i j) (drun Γ k ops ms r ⟨i::lg.ds,addD o lg.dn,lg.ms,lg.ps,lg.rs,lg.ac⟩ env' h' K) .bad
            |.m=>bb (lg.ms.all fun j=>anc ms i j.1) (again2 ms i h' lg.rs (drun Γ k ops ms r ⟨i::lg.ds,addD o lg.dn,(i,h)::lg.ms,i::lg.ps,lg.rs,lg.ac⟩ env' h' K)) (twinF ops ms i r lg o env fun _=>K env' h'))
        .bad
def okL (env:E):List Key→Bool
  | []=>true
  |.t _::r=>okL env r
  |.c b _::r=>okL env r
  |.b n m::r=>(match bget env.pb n with |some q=>Nat.beq q m|none=>false)&&(match eget env.tm n with |.p b o=>Nat.beq b n&&Nat.beq o 0|_=>false)&&okL env r
def valsL (env:E):List Key→A
  | []=>.nl
  |.t n::r=>.cn (sval (eget env.tm n)) (valsL env r)
  |.c b i::r=>.cn (cget env.cl b i) (valsL env r)
  |.b _ _::r=>valsL env r
def fin (L:List Key)(e:Nat)(env:E)(h:H):R:=tid<|bb (okL env L) (.go e (valsL env L) h) .bad
def un:List Key→A→E→(E→R)→R
  | [],_,env,k=>tid<|k env
  |.t n::r,l,env,k=>oCn l fun x t=>un r t ⟨(n,.v x)::env.tm,env.cl,env.pb⟩ k
  |.c b i::r,l,env,k=>oCn l fun x t=>un r t ⟨env.tm,((b,i),x)::env.cl,env.pb⟩ k
  |.b n m::r,l,env,k=>tid<|un r l ⟨(n,.p n 0)::env.tm,env.cl,(n,m)::env.pb⟩ k
def e0:E:=⟨[],[],[]⟩
def hasExit:Code→Nat→Bool
  |.seq a b,i=>hasExit a i||hasExit b i
  |.cond _ a b,i=>hasExit a i||hasExit b i
  |.block _ a,i=>hasExit a i
  |.loop a,i=>hasExit a i
  |.scope a,i=>hasExit a i
  |.exit j,i=>Nat.beq i j
  |_,_=>false
def noN:Code→Bool
  |.ret=>true
  |.exit _=>true
  |.loop _=>true
  |.seq a b=>noN a||noN b
  |.cond _ a b=>noN a&&noN b
  |.scope a=>noN a
  |.block i a=>noN a&&!hasExit a i
  |_=>false
def res (Γ:Cx):List ResultVar→E→H→(A→R)→R
  | [],_,_,c=>tid<|c .nl
  |.tmp t::r,env,h,c=>res Γ r env h fun l=>c (.cn (sval (eget env.tm t)) l)
  |.cell a t::r,env,h,c=>match ptrOf env none (.tmp a)with
    |some (b,q)=>bb (nz Γ.T t&&bhas env.pb b q (tget? Γ.T t).size) (res Γ r env h fun l=>c (.cn (bif (tget? Γ.T t).agg then .nd 0 (cellsAt env b q (tget? Γ.T t).size)else cget env.cl b q) l)) .bad
    |none=>bb (nz Γ.T t) (bb (tget? Γ.T t).agg (oLdN (tget? Γ.T t).size (sval (eget env.tm a)) h fun v=>res Γ r env h fun l=>c (.cn v l)) (oLd (sval (eget env.tm a)) h fun v=>res Γ r env h fun l=>c (.cn v l))) .bad
def retR (Γ:Cx)(env:E)(h:H):R:=tid<|match Γ.rs with
  | [r]=>res Γ [r] env h fun l=>.go 1 l h
  |rs=>res Γ rs env h fun l=>.go 1 (.cn (.nd 1 l) .nl) h
def getK (l:List (Nat×List Key))(i:Nat):List Key:=(lkp l i).getD []
def fid:Code→Nat
  |.region id _ _=>id+1
  |.seq a b=>match fid a with |0=>fid b|n=>n
  |.cond _ a b=>match fid a with |0=>fid b|n=>n
  |.block _ a=>fid a
  |.loop a=>fid a
  |.scope a=>fid a
  |_=>0
def condK (l:List (Nat×List Key))(c:Operand)(a b:Code):List Key:=match c with |.tmp t=>getK l (t * 100000+fid (.seq a b))|_=>[]
def unPg (x:Nat×S):Nat×S:=match x.2 with |.pg ..=>(x.1,.v junk)|_=>x
def purge (env:E):E:=⟨env.tm.map unPg,env.cl,env.pb⟩
def nodupD (nt:Nat):List Oper→Bool
  | []=>true
  |o::r=>(match o.dst with |none=>true|some d=>Nat.blt d nt&&r.all fun p=>match p.dst with |some e=>!Nat.beq d e|none=>true)&&nodupD nt r
def freshA (Γ:Cx)(env:E)(ops:List Oper):Bool:=ops.all fun o=>match o.dst with |none=>true|some d=>!hasN Γ.pv d||fresh env d
def den (Γ:Cx)(k:K):Code→Nat→List (Nat×List Key)→E→H→(E→H→R)→R
  |.skip,_,_,env,h,K=>tid<|K env h
  |.region id ⟨ops⟩ draw,_,_,env,h,K=>bb (nodupD Γ.nt ops) (bb draw (bb (freshA Γ env ops) (drun Γ k ops (masks ops []) (((Γ.dr.find? fun x=>Nat.beq id x.1).map (·.2)).getD (List.range ops.length)) ⟨[],[],[],[],[],[]⟩ env h fun env h=>K (purge env) h) .bad) (dops Γ k ops [] ops env h fun env h=>K (purge env) h)) .bad
  |.seq a b,lp,X,env,h,K=>den Γ k a lp X env h fun env h=>den Γ k b lp X env h K
  |.cond c a b,lp,X,env,h,K=>bb (noN a||noN b) (oIf (val env c) h (fun h=>den Γ k a lp X env h K) (fun h=>den Γ k b lp X env h K))
    (rThen (fun vs h=>un (condK Γ.lc c a b) vs e0 fun env=>K env h) (oIf (val env c) h (fun h=>den Γ k a lp X env h (fin (condK Γ.lc c a b) 0)) (fun h=>den Γ k b lp X env h (fin (condK Γ.lc c a b) 0))))
  |.block i a,_,X,env,h,K=>rThen (fun vs h=>un (getK Γ.lb i) vs e0 fun env=>K env h) (rBlk (i+2) (den Γ k a i ((i,getK Γ.lb i)::X) env h (fin (getK Γ.lb i) 0)))
  |.loop a,lp,X,env,h,_=>bb (okL env (getK Γ.ll lp)) (cLoop (fun vs h=>un (getK Γ.ll lp) vs e0 fun env=>den Γ k a lp X env h (fin (getK Γ.ll lp) 0)) 100000 (valsL env (getK Γ.ll lp)) h) .bad
  |.exit i,_,X,env,h,_=>match lkp X i with |some L=>fin L (i+2) env h|none=>tid .bad
  |.ret,_,_,env,h,_=>retR Γ env h
  |_,_,_,_,_,_=>.bad
def args:Nat→Nat→A→List (Nat×S)→(List (Nat×S)→R)→R
  |0,_,_,tm,c=>tid<|c tm
  |n+1,i,l,tm,c=>oCn l fun x r=>args n (i+1) r ((i,.v x)::tm) c
def denF (Γ:Cx)(n:Nat)(body:Code)(k:K)(a:A)(h:H):R:=bb (Nat.ble n Γ.nt) (args n 0 a [] fun tm=>den Γ k body 0 [] ⟨tm,[],[]⟩ h (retR Γ)) .bad
end
end Go.X1

namespace Go.X1
structure Loc where
  blk:Nat
  base:Nat
  lo:Nat
  sz:Nat
  cap:Nat
  fz:Nat×Nat
def Loc.At (L:Loc)(n:Nat):Prop:=L.blk=n∧L.fz=(0,0)
abbrev Al:=Nat→Option Loc
class Nu where
  v0:Nat
  v1:Nat
  v2:Nat
  inp:Value
variable [Nu]
def Nu.val (i:Nat):Nat:=i % 10 * Nu.v0+i / 10 % 10 * Nu.v1+i / 100 % 10 * Nu.v2+i / 1000
def itB (n:Nat):List UInt8:=if n<10 then [UInt8.ofNat (48+n)]else if n<100 then [UInt8.ofNat (48+n / 10),UInt8.ofNat (48+n % 10)]else [UInt8.ofNat (48+n / 100),UInt8.ofNat (48+n / 10 % 10),UInt8.ofNat (48+n % 10)]
theorem itB_len (n:Nat):(itB n).length≤3:=by
  unfold itB;split
  · simp
  · split<;>simp
def lenK (u m:Nat):Prop:=u=0∧m≤1048576∨u=1∧1048576<m
inductive RefR (α:Al):Value→Nat→Nat→Nat→Nat→Prop
  |ptr {b o n:Nat} {L:Loc} (h:α b=some L) (ho:L.lo≤o):RefR α (.pointer (some ⟨L.blk,L.base+(o-L.lo),none⟩)) 1 b o n
  |map {b o n:Nat} {L:Loc} (h:α b=some L):RefR α (.map (some L.blk)) 2 b o n
  |nsl {b o n:Nat}:RefR α (.slice none 0 0) 3 b o n
  |nptr {b o n:Nat}:RefR α (.pointer none) 4 b o n
  |nmap {b o n:Nat}:RefR α (.map none) 5 b o n
  |nif {b o n:Nat}:RefR α .nilIface 6 b o n
  |nfn {b o n:Nat}:RefR α .nilFunc 9 b o n
  |err {t:TypeId} {v:Value} {b o n:Nat}:RefR α (.iface t v) 7 b o n
  |sm {u i:Nat} (h:Nu.val i≤u) (hu:u≤999):RefR α (.int .i64 (Nu.val i)) 8 0 u i
  |raw {u i m:Nat} (h:m % u=Nu.val i):RefR α (.int .i64 m) 8 1 u i
  |rst {u i m:Nat} (h:m % u=i):RefR α (.int .i64 m) 8 2 u i
  |dg {j i:Nat} {b:UInt8} (hv:Nu.val i≤999) (h:(itB (Nu.val i))[j]? =some b):RefR α (.int .u8 b.toNat) 8 3 j i
  |inp {u n c:Nat} {ad:Option Addr} (h:Nu.inp=.slice ad n c) (hu:lenK u n):RefR α (.slice ad n c) 8 7 u 0
  |ilen {u n:Nat} (hu:lenK u n):RefR α (.int .i64 n) 8 8 u 0
  |prd {i j:Nat} (hi:Nu.val i≤999) (hj:Nu.val j≤999):RefR α (.int .i64 ((Nu.val i * Nu.val j:Nat):Int)) 8 9 i j
  |hf {i j:Nat} (hi:Nu.val i≤999) (hj:Nu.val j≤999):RefR α (.int .i64 ((Nu.val i * Nu.val j / 2:Nat):Int)) 8 10 i j
  |sl {g b o n c:Nat} {ad:Addr} {L:Loc} (h:α b=some L) (hg:g=10+L.sz) (hz:0<L.sz) (ho:L.lo≤o) (hn:n≤c) (hc:c * L.sz+(o-L.lo)=L.cap) (had:c=0∨ad=⟨L.blk,L.base+(o-L.lo),none⟩):RefR α (.slice (some ad) n c) g b o n
inductive Pcs:List UInt8→A→Prop
  |nil:Pcs [] .nl
  |byt {b:UInt8} {r:List UInt8} {cs:A} (h:Pcs r cs):Pcs (b::r) (.cn (.byt b.toNat) cs)
  |dg {b:UInt8} {r:List UInt8} {cs:A} {j i:Nat} (hv:Nu.val i≤999) (h0:(itB (Nu.val i))[j]? =some b) (h:Pcs r cs):Pcs (b::r) (.cn (.ref 8 3 j i) cs)
  |it {r:List UInt8} {cs:A} {i:Nat} (hv:Nu.val i≤999) (h:Pcs r cs):Pcs (itB (Nu.val i)++r) (.cn (.ref 8 4 0 i) cs)
  |tx {r:List UInt8} {cs:A} {i j:Nat} (hi:Nu.val i≤999) (hj:Nu.val j≤999) (h:Pcs r cs):Pcs (Lib.decDigits (Nu.val i * Nu.val j / 2)++r) (.cn (.ref 8 5 i j) cs)
mutual
inductive Rep (α:Al):Value→A→Prop
  |int {m:Int} {n:Nat} (h:m+9223372036854775808=n):Rep α (.int .i64 m) (.int n)
  |byt {m:Int} {n:Nat} (h:m=n) (hn:n<256):Rep α (.int .u8 m) (.byt n)
  |bool (b:Bool):Rep α (.bool b) (.bool b)
  |str {s:ByteArray} {n N:Nat} (hn:s.data.toList.length=n) (hN:encB s.data.toList=N):Rep α (.string s) (.str n N)
  |ref {v:Value} {g b o n:Nat} (h:RefR α v g b o n):Rep α v (.ref g b o n)
  |agg {vs:List Value} {cs:A} (h:RepL α vs cs) (h1:∀ v∈vs,v.oneCell'=true):Rep α (.agg ⟨vs⟩) (.nd 0 cs)
  |tup {vs:List Value} {cs:A} (h:RepL α vs cs):Rep α (.tuple ⟨vs⟩) (.nd 1 cs)
  |fn {f g:Nat} {vs:List Value} {cs:A} (hg:g=100+f) (h:RepL α vs cs):Rep α (.func (.func f) #[] ⟨vs⟩) (.nd g cs)
  |pst {s:ByteArray} {cs:A} (h:Pcs s.data.toList cs):Rep α (.string s) (.nd 2 cs)
  |unk (v:Value):Rep α v .nl
inductive RepL (α:Al):List Value→A→Prop
  |nil:RepL α [] .nl
  |cons {v:Value} {x:A} {vs:List Value} {xs:A} (h:Rep α v x) (t:RepL α vs xs):RepL α (v::vs) (.cn x xs)
end
def Le (α α':Al):Prop:=∀ b L,α b=some L→α' b=some L
theorem Le.refl (α:Al):Le α α:=fun _ _ h=>h
theorem Le.trans {α β γ:Al}(h:Le α β)(g:Le β γ):Le α γ:=fun b L e=>g b L (h b L e)
theorem RefR.mono {α α':Al}(hl:Le α α'){v:Value}{g b o n:Nat}(h:RefR α v g b o n):RefR α' v g b o n:=by
  cases h with
  |ptr h ho=>exact .ptr (hl _ _ h) ho
  |map h=>exact .map (hl _ _ h)
  |nsl=>exact .nsl
  |nptr=>exact .nptr
  |nmap=>exact .nmap
  |nif=>exact .nif
  |nfn=>exact .nfn
  |err=>exact .err
  |sm h hu=>exact .sm h hu
  |raw h=>exact .raw h
  |rst h=>exact .rst h
  |dg hv h=>exact .dg hv h
  |inp h hu=>exact .inp h hu
  |ilen hu=>exact .ilen hu
  |prd a b=>exact .prd a b
  |hf a b=>exact .hf a b
  |sl h hg hz ho hn hc had=>exact .sl (hl _ _ h) hg hz ho hn hc had
mutual
theorem Rep.mono {α α':Al}(hl:Le α α'):∀{v:Value} {x:A},Rep α v x→Rep α' v x
  |_,_,.int h=>.int h
  |_,_,.byt h hn=>.byt h hn
  |_,_,.bool b=>.bool b
  |_,_,.str h1 h2=>.str h1 h2
  |_,_,.ref h=>.ref (h.mono hl)
  |_,_,.agg h h1=>.agg (RepL.mono hl h) h1
  |_,_,.tup h=>.tup (RepL.mono hl h)
  |_,_,.fn hg h=>.fn hg (RepL.mono hl h)
  |_,_,.pst h=>.pst h
  |_,_,.unk v=>.unk v
theorem RepL.mono {α α':Al}(hl:Le α α'):∀{vs:List Value} {xs:A},RepL α vs xs→RepL α' vs xs
  |_,_,.nil=>.nil
  |_,_,.cons h t=>.cons (Rep.mono hl h) (RepL.mono hl t)
end
theorem RefR.down {α α':Al}(hl:Le α α'){v u:Value}{g b o n:Nat}(h:RefR α u g b o n)(h':RefR α' v g b o n):RefR α v g b o n:=by
  have key:∀ L L',α b=some L→α' b=some L'→L'=L:=fun L L' h1 h2=>by have:=hl _ _ h1;rw [h2]at this;exact Option.some.inj this
  cases h' with
  |ptr e ho=>cases h with
    |ptr e1 _=>have:=key _ _ e1 e;subst this;exact .ptr e1 ho
    |sl _ hg=>omega
  |map e=>cases h with
    |map e1=>have:=key _ _ e1 e;subst this;exact .map e1
    |sl _ hg=>omega
  |nsl=>exact .nsl
  |nptr=>exact .nptr
  |nmap=>exact .nmap
  |nif=>exact .nif
  |nfn=>exact .nfn
  |err=>exact .err
  |sm q hu=>exact .sm q hu
  |raw q=>exact .raw q
  |rst q=>exact .rst q
  |dg hv q=>exact .dg hv q
  |inp q hu=>exact .inp q hu
  |ilen hu=>exact .ilen hu
  |prd a b=>exact .prd a b
  |hf a b=>exact .hf a b
  |sl e hg hz ho hn hc had=>cases h with
    |sl e1 _ _ _ _ _ _=>have:=key _ _ e1 e;subst this;exact .sl e1 hg hz ho hn hc had
    |_=>omega
mutual
theorem Rep.down {α α':Al}(hl:Le α α'):∀{u v:Value} {x:A},Rep α u x→Rep α' v x→Rep α v x
  |_,_,_,.int _,.int h=>.int h
  |_,_,_,.byt _ _,.byt h hn=>.byt h hn
  |_,_,_,.bool _,.bool b=>.bool b
  |_,_,_,.str _ _,.str h1 h2=>.str h1 h2
  |_,_,_,.ref h,.ref h'=>.ref (h.down hl h')
  |_,_,_,.agg h _,.agg h' h1=>.agg (RepL.down hl h h') h1
  |_,_,_,.tup h,.tup h'=>.tup (RepL.down hl h h')
  |_,_,_,.fn _ h,.fn hg h'=>.fn hg (RepL.down hl h h')
  |_,_,_,.agg h _,.fn hg h'=>by omega
  |_,_,_,.tup h,.fn hg h'=>by omega
  |_,_,_,.fn hg h,.agg h' _=>by omega
  |_,_,_,.unk _,.unk v=>.unk v
  |_,_,_,.pst _,.pst h=>.pst h
  |_,_,_,.pst _,.fn hg h'=>by omega
  |_,_,_,.fn hg h,.pst h'=>by omega
  |_,_,_,.fn hg h,.tup h'=>by omega
theorem RepL.down {α α':Al}(hl:Le α α'):∀{us vs:List Value} {xs:A},RepL α us xs→RepL α' vs xs→RepL α vs xs
  |_,_,_,.nil,.nil=>.nil
  |_,_,_,.cons h t,.cons h' t'=>.cons (Rep.down hl h h') (RepL.down hl t t')
end
theorem llen_cn (x r:A):llen (.cn x r)=llen r+1:=rfl
theorem RepL.len {α:Al}:∀{vs:List Value} {xs:A},RepL α vs xs→vs.length=llen xs
  |_,_,.nil=>rfl
  |_,_,.cons _ t=>by rw [llen_cn,List.length_cons,t.len]
theorem nth_cn0 (x r:A):nth (.cn x r) 0=x:=rfl
theorem nth_cnS (x r:A)(i:Nat):nth (.cn x r) (i+1)=nth r i:=rfl
theorem RepL.get {α:Al}:∀{vs:List Value} {xs:A},RepL α vs xs→∀ i v,vs[i]? =some v→Rep α v (nth xs i)
  |_,_,.nil,i,v,h=>by simp at h
  |_,_,.cons hv t,0,v,h=>by simp at h;subst h;rw [nth_cn0];exact hv
  |_,_,.cons hv t,i+1,v,h=>by rw [nth_cnS];exact t.get i v (by simpa using h)
theorem lapp_nl (m:A):lapp .nl m=m:=rfl
theorem lapp_cn (x r m:A):lapp (.cn x r) m=.cn x (lapp r m):=rfl
theorem RepL.app {α:Al}:∀{vs us:List Value} {xs ys:A},RepL α vs xs→RepL α us ys→RepL α (vs++us) (lapp xs ys)
  |_,_,_,_,.nil,h=>h
  |_,_,_,_,.cons hv t,h=>.cons hv (t.app h)
theorem tget_lf {α:Type}(d:α)(i:Nat):tget d .lf i=d:=rfl
theorem tget_nd {α:Type}(d x:α)(l r:T α)(i:Nat):tget d (.nd x l r) i=if i=0 then x else if i % 2=1 then tget d l (i / 2)else tget d r (i / 2-1):=by
  show @Bool.rec (fun _=>α) (@Bool.rec (fun _=>α) (tget d r (i / 2-1)) (tget d l (i / 2)) (Nat.beq (i % 2) 1)) x (Nat.beq i 0)=_
  by_cases h:i=0
  · subst h;rfl
  · rw [if_neg h,show Nat.beq i 0=false from Bool.eq_false_iff.2 (fun e=>h (Nat.eq_of_beq_eq_true e))]
    by_cases g:i % 2=1
    · rw [if_pos g,show Nat.beq (i % 2) 1=true from by rw [g];rfl]
    · rw [if_neg g,show Nat.beq (i % 2) 1=false from Bool.eq_false_iff.2 (fun e=>g (Nat.eq_of_beq_eq_true e))]
theorem tset_lf {α:Type}(v:α)(i:Nat):tset v .lf i=.nd v .lf .lf:=rfl
theorem tset_nd {α:Type}(v x:α)(l r:T α)(i:Nat):tset v (.nd x l r) i=if i=0 then .nd v l r else if i % 2=1 then .nd x (tset v l (i / 2)) r else .nd x l (tset v r (i / 2-1)):=by
  show @Bool.rec (fun _=>T α) (@Bool.rec (fun _=>T α) (.nd x l (tset v r (i / 2-1))) (.nd x (tset v l (i / 2)) r) (Nat.beq (i % 2) 1)) (.nd v l r) (Nat.beq i 0)=_
  by_cases h:i=0
  · subst h;rfl
  · rw [if_neg h,show Nat.beq i 0=false from Bool.eq_false_iff.2 (fun e=>h (Nat.eq_of_beq_eq_true e))]
    by_cases g:i % 2=1
    · rw [if_pos g,show Nat.beq (i % 2) 1=true from by rw [g];rfl]
    · rw [if_neg g,show Nat.beq (i % 2) 1=false from Bool.eq_false_iff.2 (fun e=>g (Nat.eq_of_beq_eq_true e))]
def Full {α:Type}:T α→Nat→Prop
  |.lf,n=>n=0
  |.nd _ l r,n=>0<n∧Full l (n / 2)∧Full r ((n-1) / 2)
theorem full_set {α:Type}(v:α):∀(t:T α) (n i:Nat),Full t n→i≤n→Full (tset v t i) (max n (i+1))∧∀ d j,tget d (tset v t i) j=if j=i then v else tget d t j
  |.lf,n,i,h,hi=>by
    have:n=0:=h
    have:i=0:=by omega
    subst this;subst n
    refine⟨⟨by omega,rfl,rfl⟩,fun d j=>?_⟩
    rw [tset_lf,tget_nd,tget_lf,tget_lf]
    by_cases hj:j=0
    · rw [if_pos hj,if_pos hj]
    · rw [if_neg hj,if_neg hj];simp [tget_lf]
  |.nd x l r,n,i,h,hi=>by
    obtain⟨h0,hl,hr⟩:=h
    rw [tset_nd]
    by_cases e:i=0
    · rw [if_pos e]
      subst e
      refine⟨by rw [Nat.max_eq_left (by omega)];exact⟨h0,hl,hr⟩,fun d j=>?_⟩
      rw [tget_nd,tget_nd]
      by_cases hj:j=0
      · rw [if_pos hj,if_pos hj]
      · rw [if_neg hj,if_neg hj,if_neg hj]
    · rw [if_neg e]
      by_cases g:i % 2=1
      · rw [if_pos g]
        obtain⟨q1,q2⟩:=full_set v l (n / 2) (i / 2) hl (by omega)
        refine⟨⟨by omega,?_,?_⟩,fun d j=>?_⟩
        · have:max (n / 2) (i / 2+1)=max n (i+1) / 2:=by omega
          rw [← this];exact q1
        · have:(max n (i+1)-1) / 2=(n-1) / 2:=by omega
          rw [this];exact hr
        · rw [tget_nd,tget_nd]
          by_cases hj:j=0
          · rw [if_pos hj,if_neg (by omega),if_pos hj]
          · rw [if_neg hj,if_neg hj]
            by_cases hp:j % 2=1
            · rw [if_pos hp,if_pos hp,q2]
              by_cases hji:j=i
              · rw [if_pos hji,if_pos (by omega)]
              · rw [if_neg hji,if_neg (by omega)]
            · rw [if_neg hp,if_neg hp,if_neg (by omega)]
      · rw [if_neg g]
        obtain⟨q1,q2⟩:=full_set v r ((n-1) / 2) (i / 2-1) hr (by omega)
        refine⟨⟨by omega,?_,?_⟩,fun d j=>?_⟩
        · have:max n (i+1) / 2=n / 2:=by omega
          rw [this];exact hl
        · have:(max n (i+1)-1) / 2=max ((n-1) / 2) (i / 2-1+1):=by omega
          rw [this];exact q1
        · rw [tget_nd,tget_nd]
          by_cases hj:j=0
          · rw [if_pos hj,if_neg (by omega),if_pos hj]
          · rw [if_neg hj,if_neg hj]
            by_cases hp:j % 2=1
            · rw [if_pos hp,if_pos hp,if_neg (by omega)]
            · rw [if_neg hp,if_neg hp,q2]
              by_cases hji:j=i
              · rw [if_pos hji,if_pos (by omega)]
              · rw [if_neg hji,if_neg (by omega)]
theorem full_get {α:Type}(d d':α):∀(t:T α) (n i:Nat),Full t n→i<n→tget d t i=tget d' t i
  |.lf,n,i,h,hi=>by have:n=0:=h;omega
  |.nd x l r,n,i,h,hi=>by
    rw [tget_nd,tget_nd]
    by_cases e:i=0
    · rw [if_pos e,if_pos e]
    · rw [if_neg e,if_neg e]
      by_cases g:i % 2=1
      · rw [if_pos g,if_pos g];exact full_get d d' l _ _ h.2.1 (by omega)
      · rw [if_neg g,if_neg g];exact full_get d d' r _ _ h.2.2 (by omega)
theorem full_out {α:Type}(d:α):∀(t:T α) (n i:Nat),Full t n→n≤i→tget d t i=d
  |.lf,_,_,_,_=>rfl
  |.nd x l r,n,i,h,hi=>by
    have h0:=h.1
    rw [tget_nd,if_neg (by omega)]
    by_cases g:i % 2=1
    · rw [if_pos g];exact full_out d l _ _ h.2.1 (by omega)
    · rw [if_neg g];exact full_out d r _ _ h.2.2 (by omega)
theorem tsets_nl (t:T A)(i:Nat):tsets .nl t i=t:=rfl
theorem tsets_cn (x r:A)(t:T A)(i:Nat):tsets (.cn x r) t i=tsets r (tset x t i) (i+1):=rfl
def isL:A→Prop
  |.nl=>True
  |.cn _ r=>isL r
  |_=>False
theorem RepL.isL {α:Al}:∀{vs:List Value} {xs:A},RepL α vs xs→isL xs
  |_,_,.nil=>trivial
  |_,_,.cons _ t=>t.isL
theorem full_sets:∀(l:A) (t:T A) (n i:Nat),isL l→Full t n→i≤n→Full (tsets l t i) (max n (i+llen l))∧∀ j,tget junk (tsets l t i) j=if i≤j∧j<i+llen l then nth l (j-i)else tget junk t j
  |.nl,t,n,i,_,h,hi=>by
    rw [tsets_nl]
    have:llen .nl=0:=rfl
    rw [this]
    refine⟨by rw [Nat.max_eq_left (by omega)];exact h,fun j=>by rw [if_neg (by omega)]⟩
  |.cn x r,t,n,i,hl,h,hi=>by
    rw [tsets_cn,llen_cn]
    obtain⟨q1,q2⟩:=full_set x t n i h hi
    obtain⟨q3,q4⟩:=full_sets r (tset x t i) _ (i+1) hl q1 (by omega)
    refine⟨by rw [show max n (i+(llen r+1))=max (max n (i+1)) (i+1+llen r)by omega];exact q3,fun j=>?_⟩
    rw [q4,q2]
    by_cases hj:j=i
    · subst hj
      rw [if_neg (by omega),if_pos rfl,if_pos (by omega),Nat.sub_self,nth_cn0]
    · by_cases h2:i+1≤j∧j<i+1+llen r
      · rw [if_pos h2,if_pos (by omega),show j-i=(j-(i+1))+1 by omega,nth_cnS]
      · rw [if_neg h2,if_neg hj,if_neg (by omega)]
theorem tgets_0 (t:T A)(o:Nat):tgets t 0 o=.nl:=rfl
theorem tgets_S (t:T A)(n o:Nat):tgets t (n+1) o=.cn (tget junk t o) (tgets t n (o+1)):=rfl
theorem llen_tgets (t:T A):∀ n o,llen (tgets t n o)=n
  |0,_=>rfl
  |n+1,o=>by rw [tgets_S,llen_cn,llen_tgets t n]
theorem repL_tgets {α:Al}(t:T A):∀(vs:List Value) (o:Nat),(∀ i v,vs[i]? =some v→Rep α v (tget junk t (o+i)))→RepL α vs (tgets t vs.length o)
  | [],_,_=>.nil
  |v::vs,o,h=>.cons (h 0 v rfl) (repL_tgets t vs (o+1) fun i u hu=>by rw [show o+1+i=o+(i+1)by omega];exact h (i+1) u (by simpa using hu))
end Go.X1

namespace Go.X1
def tkOf (P:Program)(t:Nat):TK:=
  match P.underlying t with
  |some (.int k)=>.int k
  |some .bool=>.bool
  |some .string=>.str
  |some (.slice e)=>.slice e
  |some (.pointer e)=>.ptr e
  |some (.struct fs)=>.struct (fs.toList.map fun f=>(f.offset,f.type))
  |some (.map k e)=>.map k e
  |some (.interface _)=>.iface
  |some (.array n e)=>.arr n e
  |_=>.other
def aggOf (P:Program)(t:Nat):Bool:=
  match P.underlying t with
  |some (.struct _)|some (.array _ _)=>true
  |_=>false
def zeroOf (P:Program)(t:Nat):List A:=(((P.info? t).bind (·.zero)).map (·.cells.toList.map cvA)).getD []
def tiOf (P:Program)(t:Nat):TI:={ kind:=tkOf P t,size:=P.cellsOf t,agg:=aggOf P t,zero:=zeroOf P t }
def TabOK (P:Program)(T:List TI):Prop:=∀ t i,T[t]? =some i→i=tiOf P t∧(P.info? t).isSome=true∧(P.underlying t).isSome=true
theorem tabOK_of {P:Program}{T:List TI}{n:Nat}(h:T=(List.range n).map (tiOf P))(h2:(List.range n).all (fun t=>(P.info? t).isSome&&(P.underlying t).isSome)=true):TabOK P T:=by
  intro t i hi
  subst h
  rw [List.getElem?_map]at hi
  rcases Nat.lt_or_ge t n with hn|hn
  · rw [List.getElem?_range hn]at hi
    simp at hi
    have:=List.all_eq_true.1 h2 t (List.mem_range.2 hn)
    simp at this
    exact⟨hi.symm,this.1,this.2⟩
  · rw [List.getElem?_eq_none (by simpa using hn)]at hi
    simp at hi
end Go.X1

namespace Go.X1
variable [Nu]
def H.tr:H→T B|.mk t _ _=>t
def H.nx:H→Nat|.mk _ n _=>n
def H.ro:H→Nat|.mk _ _ r=>r
structure Agree (w w':World):Prop where
  size:w.heap.size≤w'.heap.size
  heap:∀ b,b<w.heap.size→w'.heap[b]? =w.heap[b]?
  os:w'.os=w.os
  out:w'.output=w.output
theorem Agree.refl (w:World):Agree w w:=⟨Nat.le_refl _,fun _ _=>rfl,rfl,rfl⟩
theorem Agree.trans {w w' w2:World}(h:Agree w w')(h2:Agree w' w2):Agree w w2:=
  ⟨Nat.le_trans h.1 h2.1,fun b hb=>(h2.2 b (Nat.lt_of_lt_of_le hb h.1)).trans (h.2 b hb),h2.os.trans h.os,h2.out.trans h.out⟩
inductive MR (α:Al) (kt:Nat):List MapEntry→A→Prop
  |nil:MR α kt [] .nl
  |cons {e:MapEntry} {k v:A} {es:List MapEntry} {l:A} (hk:Rep α e.key k) (hc:kcl k=kt) (hv:Rep α e.val v) (t:MR α kt es l):MR α kt (e::es) (.cn (.cn k v) l)
def BR (α:Al)(w:World)(L:Loc):B→Prop
  |.no=>True
  |.cs n lo t=>lo=L.lo∧lo≤n∧n≤lo+L.cap∧(∃ m,Full t m∧n≤m)∧∃ cs el,w.heap[L.blk]? =some (.cells cs el L.fz)∧L.base+L.cap≤cs.size∧∀ i,lo≤i→i<n→∃ v,cs[L.base+(i-lo)]? =some v∧v.oneCell'=true∧Rep α v (tget junk t i)
  |.mp kt es=>∃ ents ck,w.heap[L.blk]? =some (.map ents ck)∧MR α kt ents.toList es
structure HR (W0:World) (α:Al) (w:World) (h:H):Prop where
  agr:Agree W0 w
  ro:h.ro≤h.nx
  full:Full h.tr h.nx
  dom:∀ b L,α b=some L→b<h.nx∧(W0.heap.size≤L.blk∧L.fz=(0,0)∨b<h.ro)∧L.blk<w.heap.size
  blk:∀ b L,α b=some L→BR α w L (tget .no h.tr b)
  dis:∀ b b' L L',α b=some L→α b'=some L'→tget .no h.tr b≠ .no→tget .no h.tr b'≠ .no→L.blk=L'.blk→b=b'
structure Fr (α:Al) (w w':World):Prop where
  size:w.heap.size≤w'.heap.size
  keep:∀ k,k<w.heap.size→(∀ b L,α b=some L→L.blk≠k)→w'.heap[k]? =w.heap[k]?
  os:w'.os=w.os
  out:w'.output=w.output
structure Ext (α α':Al) (w:World) (h:H):Prop where
  le:Le α α'
  new:∀ b L,α' b=some L→α b=some L∨(α b=none∧h.nx≤b∧(w.heap.size≤L.blk∨∃ b0 L0,α b0=some L0∧L0.blk=L.blk))
structure RO (h h':H):Prop where
  ro:h'.ro=h.ro
  nx:h.nx≤h'.nx
  keep:∀ b,b<h.ro→tget .no h'.tr b=tget .no h.tr b
structure Step (W0:World) (α:Al) (w:World) (h:H) (α':Al) (w':World) (h':H):Prop where
  hr:HR W0 α' w' h'
  ext:Ext α α' w h
  fr:Fr α w w'
  ro:RO h h'
  un:∀ b,b<h.nx→α b=none→tget .no h'.tr b=tget .no h.tr b
theorem Fr.refl (α:Al)(w:World):Fr α w w:=⟨Nat.le_refl _,fun _ _ _=>rfl,rfl,rfl⟩
theorem Ext.refl (α:Al)(w:World)(h:H):Ext α α w h:=⟨Le.refl α,fun _ _ e=>.inl e⟩
theorem RO.refl (h:H):RO h h:=⟨rfl,Nat.le_refl _,fun _ _=>rfl⟩
theorem RO.trans {h h1 h2:H}(a:RO h h1)(b:RO h1 h2):RO h h2:=⟨b.ro.trans a.ro,Nat.le_trans a.nx b.nx,fun k hk=>(b.keep k (by rw [a.ro];exact hk)).trans (a.keep k hk)⟩
theorem Step.refl {W0:World}{α:Al}{w:World}{h:H}(hr:HR W0 α w h):Step W0 α w h α w h:=⟨hr,.refl _ _ _,.refl _ _,.refl _,fun _ _ _=>rfl⟩
theorem Step.trans {W0:World}{α α1 α2:Al}{w w1 w2:World}{h h1 h2:H}(a:Step W0 α w h α1 w1 h1)(b:Step W0 α1 w1 h1 α2 w2 h2):Step W0 α w h α2 w2 h2 where
  hr:=b.hr
  ext:=⟨a.ext.le.trans b.ext.le,fun k L e=>by
    rcases b.ext.new k L e with e1|⟨e1,e2,e3⟩
    · exact a.ext.new k L e1
    · refine .inr ⟨?_,Nat.le_trans a.ro.nx e2,?_⟩
      · cases h0:α k with
        |none=>rfl
        |some L'=>rw [a.ext.le k L' h0]at e1;cases e1
      · rcases e3 with e3|⟨b0,L0,e3,e4⟩
        · exact .inl (Nat.le_trans a.fr.size e3)
        · rcases a.ext.new b0 L0 e3 with e5|⟨_,_,e5⟩
          · exact .inr ⟨b0,L0,e5,e4⟩
          · rw [← e4];exact e5⟩
  fr:=⟨Nat.le_trans a.fr.size b.fr.size,fun k hk hn=>(b.fr.keep k (Nat.lt_of_lt_of_le hk a.fr.size) fun b0 L0 e0=>by
      rcases a.ext.new b0 L0 e0 with e1|⟨_,_,e1|⟨b1,L1,e1,e2⟩⟩
      · exact hn b0 L0 e1
      · omega
      · rw [← e2];exact hn b1 L1 e1).trans (a.fr.keep k hk hn),b.fr.os.trans a.fr.os,b.fr.out.trans a.fr.out⟩
  ro:=a.ro.trans b.ro
  un:=fun k hk e=>(b.un k (Nat.lt_of_lt_of_le hk a.ro.nx) (by
    cases e1:α1 k with
    |none=>rfl
    |some L=>
      rcases a.ext.new k L e1 with e2|⟨_,e2,_⟩
      · rw [e]at e2;cases e2
      · omega)).trans (a.un k hk e)
theorem BR.world {α:Al}{w w':World}{L:Loc}{B0:B}(h:BR α w L B0)(e:w'.heap[L.blk]? =w.heap[L.blk]?):BR α w' L B0:=by
  cases B0 with
  |no=>trivial
  |cs n lo t=>obtain⟨a,b,c,d,cs,el,f,g⟩:=h;exact⟨a,b,c,d,cs,el,by rw [e];exact f,g⟩
  |mp kt es=>obtain⟨a,b,c,d⟩:=h;exact⟨a,b,by rw [e];exact c,d⟩
theorem MR.mono {α α':Al}(hl:Le α α'){kt:Nat}:∀{es:List MapEntry} {l:A},MR α kt es l→MR α' kt es l
  |_,_,.nil=>.nil
  |_,_,.cons hk hc hv t=>.cons (hk.mono hl) hc (hv.mono hl) (t.mono hl)
theorem BR.mono {α α':Al}(hl:Le α α'){w:World}{L:Loc}{B0:B}(h:BR α w L B0):BR α' w L B0:=by
  cases B0 with
  |no=>trivial
  |cs n lo t=>obtain⟨a,b,c,d,cs,el,f,g,k⟩:=h;exact⟨a,b,c,d,cs,el,f,g,fun i h1 h2=>let ⟨v,q1,q2,q3⟩:=k i h1 h2;⟨v,q1,q2,q3.mono hl⟩⟩
  |mp kt es=>obtain⟨a,b,c,d⟩:=h;exact⟨a,b,c,d.mono hl⟩
def R.lf:R→Option (Nat×A×H)
  |.bad=>none
  |.go e vs h=>some (e,vs,h)
section
variable {lf:Nat×A×H}
theorem oByt_lf {x:A}{c:Nat→R}(h:(oByt x c).lf=some lf):∃ n,x=.byt n∧(c n).lf=some lf:=by
  cases x with
  |byt n=>exact⟨n,rfl,h⟩
  |_=>cases (show (none:Option (Nat×A×H))=some lf from h)
theorem oInt_lf {x:A}{c:Nat→R}(h:(oInt x c).lf=some lf):∃ n,x=.int n∧(c n).lf=some lf:=by
  cases x with
  |int n=>exact⟨n,rfl,h⟩
  |_=>cases (show (none:Option (Nat×A×H))=some lf from h)
theorem oIntE_lf {x:A}{c:Nat→R}{e:Nat→Nat→Nat→Nat→R}(h:(oIntE x c e).lf=some lf):(∃ n,x=.int n∧(c n).lf=some lf)∨∃ g b o n,x=.ref g b o n∧(e g b o n).lf=some lf:=by
  cases x with
  |int n=>exact .inl ⟨n,rfl,h⟩
  |ref g b o n=>exact .inr ⟨g,b,o,n,rfl,h⟩
  |_=>cases (show (none:Option (Nat×A×H))=some lf from h)
theorem rep_sm {α:Al}{v:Value}{u i:Nat}(h:Rep α v (.ref 8 0 u i)):v=.int .i64 (Nu.val i)∧Nu.val i≤u∧u≤999:=by
  cases h with |ref h=>
  generalize hg:8=g at h
  generalize hb:0=b at h
  cases h with
  |sm h1 h2=>exact⟨rfl,h1,h2⟩
  |sl _ hg'=>omega
  |_=>omega
theorem rep_ilen {α:Al}{v:Value}{u i:Nat}(h:Rep α v (.ref 8 8 u i)):∃ n:Nat,v=.int .i64 n∧lenK u n:=by
  cases h with |ref h=>
  generalize hg:8=g at h
  generalize hb:8=b at h
  cases h with
  |ilen hu=>exact⟨_,rfl,hu⟩
  |sl _ hg'=>omega
  |_=>omega
theorem rep_prd {α:Al}{v:Value}{i j:Nat}(h:Rep α v (.ref 8 9 i j)):v=.int .i64 ((Nu.val i * Nu.val j:Nat):Int)∧Nu.val i≤999∧Nu.val j≤999:=by
  cases h with |ref h=>
  generalize hg:8=g at h
  generalize hb:9=b at h
  cases h with
  |prd h1 h2=>exact⟨rfl,h1,h2⟩
  |sl _ hg'=>omega
  |_=>omega
theorem rep_hf {α:Al}{v:Value}{i j:Nat}(h:Rep α v (.ref 8 10 i j)):v=.int .i64 ((Nu.val i * Nu.val j / 2:Nat):Int)∧Nu.val i≤999∧Nu.val j≤999:=by
  cases h with |ref h=>
  generalize hg:8=g at h
  generalize hb:10=b at h
  cases h with
  |hf h1 h2=>exact⟨rfl,h1,h2⟩
  |sl _ hg'=>omega
  |_=>omega
theorem oBool_lf {x:A}{c:Bool→R}(h:(oBool x c).lf=some lf):∃ b,x=.bool b∧(c b).lf=some lf:=by
  cases x with
  |bool b=>exact⟨b,rfl,h⟩
  |_=>cases (show (none:Option (Nat×A×H))=some lf from h)
theorem oStr_lf {x:A}{c:Nat→Nat→R}(h:(oStr x c).lf=some lf):∃ n N,x=.str n N∧(c n N).lf=some lf:=by
  cases x with
  |str n N=>exact⟨n,N,rfl,h⟩
  |_=>cases (show (none:Option (Nat×A×H))=some lf from h)
theorem oRef_lf {x:A}{c:Nat→Nat→Nat→Nat→R}(h:(oRef x c).lf=some lf):∃ g b o n,x=.ref g b o n∧(c g b o n).lf=some lf:=by
  cases x with
  |ref g b o n=>exact⟨g,b,o,n,rfl,h⟩
  |_=>cases (show (none:Option (Nat×A×H))=some lf from h)
theorem oNd_lf {x:A}{c:Nat→A→R}(h:(oNd x c).lf=some lf):∃ g l,x=.nd g l∧(c g l).lf=some lf:=by
  cases x with
  |nd g l=>exact⟨g,l,rfl,h⟩
  |_=>cases (show (none:Option (Nat×A×H))=some lf from h)
theorem oCn_lf {x:A}{c:A→A→R}(h:(oCn x c).lf=some lf):∃ a r,x=.cn a r∧(c a r).lf=some lf:=by
  cases x with
  |cn a r=>exact⟨a,r,rfl,h⟩
  |_=>cases (show (none:Option (Nat×A×H))=some lf from h)
theorem rec_lf {b:Bool}{x y:R}(h:R.lf (@Bool.rec (fun _=>R) y x b)=some lf):(b=true∧x.lf=some lf)∨(b=false∧y.lf=some lf):=by
  cases b
  · exact .inr ⟨rfl,h⟩
  · exact .inl ⟨rfl,h⟩
theorem oCk_lf {b:Bool}{r:R}(h:(oCk b r).lf=some lf):b=true∧r.lf=some lf:=by
  rcases rec_lf h with h|⟨_,h⟩
  · exact h
  · cases h
theorem bad_lf {p:Prop}(h:R.lf .bad=some lf):p:=by cases h
theorem ble {a b:Nat}(h:Nat.ble a b=true):a≤b:=Nat.le_of_ble_eq_true h
theorem blt {a b:Nat}(h:Nat.blt a b=true):a<b:=by unfold Nat.blt at h;exact ble h
theorem beq {a b:Nat}(h:Nat.beq a b=true):a=b:=Nat.eq_of_beq_eq_true h
theorem oPt_lf {x:A}{c:Nat→Nat→R}(h:(oPt x c).lf=some lf):∃ b o n,x=.ref 1 b o n∧(c b o).lf=some lf:=by
  obtain⟨g,b,o,n,rfl,h⟩:=oRef_lf h
  obtain⟨h1,h⟩:=oCk_lf h
  have:=beq h1;subst this
  exact⟨b,o,n,rfl,h⟩
theorem oH_lf {h0:H}{c:T B→Nat→Nat→R}(h:(oH h0 c).lf=some lf):(c h0.tr h0.nx h0.ro).lf=some lf:=by
  cases h0;exact h
theorem oBlk_lf {h0:H}{b:Nat}{c:Nat→Nat→T A→R}(h:(oBlk h0 b c).lf=some lf):∃ n lo t,tget .no h0.tr b=.cs n lo t∧(c n lo t).lf=some lf:=by
  cases h0 with
  |mk t nx ro=>
    change R.lf (@B.rec (fun _=>R) .bad c fMp (tget .no t b))=some lf at h
    show ∃ n lo t',tget .no t b=.cs n lo t'∧_
    cases hb:tget .no t b with
    |no=>rw [hb]at h;cases h
    |cs n lo t'=>rw [hb]at h;exact⟨n,lo,t',rfl,h⟩
    |mp kt es=>rw [hb]at h;cases h
theorem oMap_lf {h0:H}{b:Nat}{c:Nat→A→R}(h:(oMap h0 b c).lf=some lf):∃ kt es,tget .no h0.tr b=.mp kt es∧(c kt es).lf=some lf:=by
  cases h0 with
  |mk t nx ro=>
    change R.lf (@B.rec (fun _=>R) .bad fCs c (tget .no t b))=some lf at h
    show ∃ kt es,tget .no t b=.mp kt es∧_
    cases hb:tget .no t b with
    |no=>rw [hb]at h;cases h
    |cs n lo t'=>rw [hb]at h;cases h
    |mp kt es=>rw [hb]at h;exact⟨kt,es,rfl,h⟩
theorem hput_lf {h0:H}{b:Nat}{v:B}{c:H→R}(h:(hput h0 b v c).lf=some lf):h0.ro≤b∧(c (.mk (tset v h0.tr b) h0.nx h0.ro)).lf=some lf:=by
  cases h0 with
  |mk t nx ro=>
    obtain⟨h1,h⟩:=oCk_lf h
    exact⟨ble h1,h⟩
theorem hnew_lf {h0:H}{v:B}{c:Nat→H→R}(h:(hnew h0 v c).lf=some lf):(c h0.nx (.mk (tset v h0.tr h0.nx) (h0.nx+1) h0.ro)).lf=some lf:=by
  cases h0 with
  |mk t nx ro=>
    obtain⟨h1,h⟩:=oCk_lf h
    exact h
theorem tid_lf {r:R}(h:(tid r).lf=some lf):r.lf=some lf:=h
theorem bb_lf {b:Bool}{x y:R}(h:(bb b x y).lf=some lf):(b=true∧x.lf=some lf)∨(b=false∧y.lf=some lf):=rec_lf h
theorem mkS_lf {n N:Nat}{c:A→R}(h:(mkS n N c).lf=some lf):n≤1000000∧(c (.str n N)).lf=some lf:=by
  obtain⟨h1,h⟩:=oCk_lf h
  rcases rec_lf h with ⟨_,h⟩|⟨_,h⟩<;>exact⟨ble h1,h⟩
end
def OpS (P:Program)(W0:World)(o:Op)(ρ:Operand→A)(h:H)(x:A)(h':H):Prop:=
  ∀(d:Option Tmp) (ty:TypeId) (pos:String) (af:Array Edge) (gu:Option (Nat×Bool)) (α:Al) (w:World) (a:Act),HR W0 α w h→(∀ y∈o.operands,Rep α (a.eval y) (ρ y))→
    ∀(next:Act→World→Prop) (Q:Exit→Act→World→Prop),(∀ α' w' v,Step W0 α w h α' w' h'→Rep α' v x→next (a.put d v) w')→Oper.wp P ⟨d,o,ty,pos,af,gu⟩ a w next Q
structure Mono (h h':H):Prop where
  nx:h.nx≤h'.nx
  tr:∀ b,tget .no h.tr b≠ .no→tget .no h'.tr b=tget .no h.tr b
theorem Mono.refl (h:H):Mono h h:=⟨Nat.le_refl _,fun _ _=>rfl⟩
def OpV (P:Program)(W0:World)(o:Op)(ρ:Operand→A)(x:A):Prop:=
  ∀(d:Option Tmp) (ty:TypeId) (pos:String) (af:Array Edge) (gu:Option (Nat×Bool)) (α:Al) (w:World) (a:Act) (h:H),HR W0 α w h→(∀ y∈o.operands,Rep α (a.eval y) (ρ y))→∃ v,(execOp a.eval ⟨d,o,ty,pos,af,gu⟩).run P w=.ok (.value v) w∧Rep α v x
def OpL (P:Program)(W0:World)(o:Op)(ρ:Operand→A)(h:H)(x:A):Prop:=
  ∀(d:Option Tmp) (ty:TypeId) (pos:String) (af:Array Edge) (gu:Option (Nat×Bool)) (α:Al) (w:World) (a:Act) (h':H),Mono h h'→HR W0 α w h'→(∀ y∈o.operands,Rep α (a.eval y) (ρ y))→∃ v,(execOp a.eval ⟨d,o,ty,pos,af,gu⟩).run P w=.ok (.value v) w∧Rep α v x
def OpP (P:Program)(W0:World)(o:Op)(ρ:Operand→A)(h:H)(x:A):Prop:=
  ∀(d:Option Tmp) (ty:TypeId) (pos:String) (af:Array Edge) (gu:Option (Nat×Bool)) (α:Al) (w:World) (a:Act),HR W0 α w h→(∀ y∈o.operands,Rep α (a.eval y) (ρ y))→
    ∀(next:Act→World→Prop) (Q:Exit→Act→World→Prop),(∀ w' v,Step W0 α w h α w' h→Rep α v x→next (a.put d v) w')→Oper.wp P ⟨d,o,ty,pos,af,gu⟩ a w next Q
def OpN (P:Program)(W0:World)(o:Op)(ρ:Operand→A)(x:Nat→A)(B0:B):Prop:=
  ∀(d:Option Tmp) (ty:TypeId) (pos:String) (af:Array Edge) (gu:Option (Nat×Bool)) (α:Al) (w:World) (a:Act) (h:H),HR W0 α w h→(∀ y∈o.operands,Rep α (a.eval y) (ρ y))→∃ v ob L,(execOp a.eval ⟨d,o,ty,pos,af,gu⟩).run P w=.ok (.value v) (w.alloc ob)∧L.At w.heap.size∧(∀ α' w',Le α α'→w'.heap[w.heap.size]? =some ob→BR α' w' L B0)∧∀ α' id,α' id=some L→Rep α' v (x id)
theorem ops_val {P:Program}{W0:World}{o:Op}{ρ:Operand→A}{h:H}{x:A}
    (hx:∀(d:Option Tmp) (ty:TypeId) (pos:String) (af:Array Edge) (gu:Option (Nat×Bool)) (α:Al) (w:World) (a:Act),HR W0 α w h→(∀ y∈o.operands,Rep α (a.eval y) (ρ y))→∃ v,(execOp a.eval ⟨d,o,ty,pos,af,gu⟩).run P w=.ok (.value v) w∧Rep α v x):OpS P W0 o ρ h x h:=by
  intro d ty pos af gu α w a hr hρ next Q hn
  obtain⟨v,h1,h2⟩:=hx d ty pos af gu α w a hr hρ
  unfold Oper.wp
  rw [h1,Oper.upon_value]
  exact hn α w v (.refl hr) h2
theorem OpV.ops {P:Program}{W0:World}{o:Op}{ρ:Operand→A}{x:A}(hv:OpV P W0 o ρ x)(h:H):OpS P W0 o ρ h x h:=
  ops_val fun d ty pos af gu α w a hr hρ=>hv d ty pos af gu α w a h hr hρ
theorem OpP.ops {P:Program}{W0:World}{o:Op}{ρ:Operand→A}{h:H}{x:A}(hv:OpP P W0 o ρ h x):OpS P W0 o ρ h x h:=
  fun d ty pos af gu α w a hr hρ next Q hn=>hv d ty pos af gu α w a hr hρ next Q fun w' v s r=>hn α w' v s r
theorem OpL.ops {P:Program}{W0:World}{o:Op}{ρ:Operand→A}{h h':H}{x:A}(hv:OpL P W0 o ρ h x)(hm:Mono h h'):OpS P W0 o ρ h' x h':=
  ops_val fun d ty pos af gu α w a hr hρ=>hv d ty pos af gu α w a h' hm hr hρ
end Go.X1

set_option maxRecDepth 100000
namespace Go.X1
variable [Nu]
theorem TabOK.info {P:Program}{T:List TI}(h:TabOK P T){t:Nat}(hz:nz T t=true):∃ i,T[t]? =some i∧tget? T t=i∧i=tiOf P t∧(∃ j,P.info? t=some j)∧(P.underlying t).isSome=true:=by
  unfold nz tget? at hz
  cases ht:T[t]? with
  |none=>rw [ht]at hz;cases hz
  |some i=>
    obtain⟨h1,h2,h3⟩:=h t i ht
    exact⟨i,rfl,by unfold tget?;rw [ht];rfl,h1,Option.isSome_iff_exists.1 h2,h3⟩
theorem TabOK.kind {P:Program}{T:List TI}(h:TabOK P T){t:Nat}(hz:(tget? T t).kind≠ .other):∃ i,T[t]? =some i∧tget? T t=i∧i=tiOf P t∧(∃ j,P.info? t=some j)∧(P.underlying t).isSome=true:=by
  unfold tget? at hz
  cases ht:T[t]? with
  |none=>rw [ht]at hz;exact absurd rfl hz
  |some i=>
    obtain⟨h1,h2,h3⟩:=h t i ht
    exact⟨i,rfl,by unfold tget?;rw [ht];rfl,h1,Option.isSome_iff_exists.1 h2,h3⟩
theorem TabOK.und {P:Program}{T:List TI}(h:TabOK P T){t:Nat}{k:TK}(hk:(tget? T t).kind=k)(hz:k≠ .other):tkOf P t=k:=by
  obtain⟨i,_,h2,h3,_⟩:=h.kind (t:=t) (by rw [hk];exact hz)
  rw [h2,h3]at hk
  exact hk
section
variable {P:Program} {T:List TI} {t:Nat}
theorem und_int {k:IntKind}(h:tkOf P t=.int k):P.underlying t=some (.int k):=by unfold tkOf at h;split at h<;>simp_all
theorem und_bool (h:tkOf P t=.bool):P.underlying t=some .bool:=by unfold tkOf at h;split at h<;>simp_all
theorem und_str (h:tkOf P t=.str):P.underlying t=some .string:=by unfold tkOf at h;split at h<;>simp_all
theorem und_slice {e:Nat}(h:tkOf P t=.slice e):P.underlying t=some (.slice e):=by unfold tkOf at h;split at h<;>simp_all
theorem und_ptr {e:Nat}(h:tkOf P t=.ptr e):P.underlying t=some (.pointer e):=by unfold tkOf at h;split at h<;>simp_all
theorem und_map {k e:Nat}(h:tkOf P t=.map k e):P.underlying t=some (.map k e):=by unfold tkOf at h;split at h<;>simp_all
theorem und_arr {n e:Nat}(h:tkOf P t=.arr n e):P.underlying t=some (.array n e):=by unfold tkOf at h;split at h<;>simp_all
theorem und_iface (h:tkOf P t=.iface):∃ ms,P.underlying t=some (.interface ms):=by unfold tkOf at h;split at h<;>simp_all
theorem und_struct {fs:List (Nat×Nat)}(h:tkOf P t=.struct fs):∃ fields,P.underlying t=some (.struct fields)∧fields.toList.map (fun f=>(f.offset,f.type))=fs:=by unfold tkOf at h;split at h<;>simp_all
end
theorem wrap_i64 (n:Int)(h1: -9223372036854775808≤n)(h2:n≤9223372036854775807):IntKind.i64.wrap n=n:=by
  simp only [IntKind.wrap,IntKind.bits,IntKind.signed]
  simp
  split<;>omega
theorem wrap_u8 (n:Int)(h1:0≤n)(h2:n≤255):IntKind.u8.wrap n=n:=by
  simp only [IntKind.wrap,IntKind.bits,IntKind.signed]
  simp
  omega
def Bin (P:Program)(op:BinOp)(t:TypeId)(x y:Operand)(a b r:A):Prop:=
  ∀(α:Al) (u v:Value),Rep α u a→Rep α v b→∃ z,(∀ w,(do eqGuard op t x y u v;binOp op t u v:Sem Value).run P w=.ok z w)∧Rep α z r
section
variable {P:Program} {t:TypeId} {x y:Operand} {lf:Nat×A×H}
theorem rep_b {α:Al}{z b:Bool}(h:z=b):Rep α (.bool z) (.bool b):=h ▸ .bool _
theorem nat_blt (a b:Nat):Nat.blt a b=decide (a<b):=by
  rw [Bool.eq_iff_iff,decide_eq_true_eq];exact⟨blt,fun h=>Nat.ble_eq_true_of_le h⟩
theorem nat_ble (a b:Nat):Nat.ble a b=decide (a≤b):=by
  rw [Bool.eq_iff_iff,decide_eq_true_eq];exact⟨ble,fun h=>Nat.ble_eq_true_of_le h⟩
theorem nat_beq (a b:Nat):Nat.beq a b=decide (a=b):=by
  rw [Bool.eq_iff_iff,decide_eq_true_eq];exact⟨beq,fun h=>by subst h;exact Nat.beq_refl a⟩
theorem int_beq (a b:Int):(a == b)=decide (a=b):=by rw [Bool.eq_iff_iff];simp
theorem int_bne (a b:Int):(a != b)=!decide (a=b):=by rw [Bool.eq_iff_iff];simp
theorem brec_not (b:Bool):(@Bool.rec (fun _=>Bool) true false b)=!b:=by cases b<;>rfl
theorem eqb_eq (a b:Bool):eqb a b=(a == b):=by cases a<;>cases b<;>rfl
theorem oSy_lf {g b u i:Nat}{k:Nat→Nat→R}(h:(oSy g b u i k).lf=some lf):g=8∧b=0∧(k u i).lf=some lf:=by
  obtain⟨h1,h⟩:=oCk_lf h
  obtain⟨h2,h⟩:=oCk_lf h
  exact⟨beq h1,beq h2,h⟩
theorem nc_val {i j:Nat}(h:nc i j=true):Nu.val (i+j)=Nu.val i+Nu.val j:=by
  have h:(@Bool.rec (fun _=>Bool) false (@Bool.rec (fun _=>Bool) false (nc1 i j 100) (nc1 i j 10)) (nc1 i j 1))=true:=h
  cases h1:nc1 i j 1<;>rw [h1]at h
  · cases h
  cases h2:nc1 i j 10<;>rw [h2]at h
  · cases h
  have h3:nc1 i j 100=true:=h
  have h1:i / 1 % 10+j / 1 % 10≤9:=ble h1
  have h2:i / 10 % 10+j / 10 % 10≤9:=ble h2
  have h3:i / 100 % 10+j / 100 % 10≤9:=ble h3
  rw [Nat.div_one,Nat.div_one]at h1
  have d2:∀ n:Nat,n / 100=n / 10 / 10:=fun n=>(Nat.div_div_eq_div_mul n 10 10).symm
  have d3:∀ n:Nat,n / 1000=n / 10 / 10 / 10:=fun n=>by rw [Nat.div_div_eq_div_mul,Nat.div_div_eq_div_mul]
  rw [d2,d2]at h3
  have a1:(i+j) % 10=i % 10+j % 10:=by clear h2 h3 d2 d3;omega
  have a2:(i+j) / 10=i / 10+j / 10:=by clear h2 h3 d2 d3;omega
  unfold Nu.val
  rw [d2,d2,d2,d3,d3,d3,a1,a2]
  generalize i / 10=i1 at *
  generalize j / 10=j1 at *
  have b1:(i1+j1) % 10=i1 % 10+j1 % 10:=by clear h1 h3 a1 a2 d2 d3;omega
  have b2:(i1+j1) / 10=i1 / 10+j1 / 10:=by clear h1 h3 a1 a2 d2 d3;omega
  rw [b1,b2]
  generalize i1 / 10=i2 at *
  generalize j1 / 10=j2 at *
  have c1:(i2+j2) % 10=i2 % 10+j2 % 10:=by clear h1 h2 a1 a2 b1 b2 d2 d3;omega
  have c2:(i2+j2) / 10=i2 / 10+j2 / 10:=by clear h1 h2 a1 a2 b1 b2 d2 d3;omega
  rw [c1,c2,Nat.add_mul,Nat.add_mul,Nat.add_mul]
  omega
theorem inc_val (i k:Nat):Nu.val (i+1000 * k)=Nu.val i+k:=by
  unfold Nu.val
  have e1:(i+1000 * k) % 10=i % 10:=by omega
  have e2:(i+1000 * k) / 10 % 10=i / 10 % 10:=by omega
  have e3:(i+1000 * k) / 100 % 10=i / 100 % 10:=by omega
  have e4:(i+1000 * k) / 1000=i / 1000+k:=by omega
  rw [e1,e2,e3,e4]
  omega
theorem sm_rep {α:Al}{u i:Nat}{m:Int}(h:m=Nu.val i)(h1:Nu.val i≤u)(h2:u≤999):Rep α (.int .i64 m) (.ref 8 0 u i):=by
  subst h;exact .ref (.sm h1 h2)
theorem syAdd_lf {u i v j:Nat}{c:A→R}(h:(syAdd u i v j c).lf=some lf):nc i j=true∧u+v≤999∧(c (.ref 8 0 (u+v) (i+j))).lf=some lf:=by
  obtain⟨h1,h⟩:=oCk_lf h
  obtain⟨h2,h⟩:=oCk_lf h
  exact⟨h1,ble h2,h⟩
theorem syInc_lf {u i a:Nat}{c:A→R}(h:(syInc u i a c).lf=some lf):∃ k:Nat,a=9223372036854775808+k∧u+k≤999∧(c (.ref 8 0 (u+k) (i+1000 * k))).lf=some lf:=by
  obtain⟨h1,h⟩:=oCk_lf h
  obtain⟨h2,h⟩:=oCk_lf h
  have h1:9223372036854775808≤a:=ble h1
  obtain⟨k,rfl⟩:=Nat.exists_eq_add_of_le h1
  have e:Nat.sub (9223372036854775808+k) 9223372036854775808=k:=Nat.add_sub_cancel_left _ _
  rw [e]at h2 h
  exact⟨k,rfl,ble h2,h⟩
theorem s_add {a b:A}{c:A→R}(h:(oAdd a b c).lf=some lf):∃ r,(c r).lf=some lf∧Bin P .add t x y a b r:=by
  rcases oIntE_lf h with ⟨m,rfl,g⟩|⟨g1,b1,u1,i1,rfl,g⟩
  · clear h
    rcases oIntE_lf g with ⟨n,rfl,h⟩|⟨g1,b1,u1,i1,rfl,h⟩
    · clear g
      rcases rec_lf h with ⟨h1,h⟩|⟨_,h⟩
      · rcases rec_lf h with ⟨h2,h⟩|⟨_,h⟩
        · refine⟨_,h,fun α u v hu hv=>?_⟩
          have h1:9223372036854775808≤m+n:=ble h1
          have h2:m+n≤27670116110564327423:=ble h2
          cases hu with |int hu=>cases hv with |int hv=>
          refine⟨_,fun w=>by simp [eqGuard,binOp,Op.intArith];rfl,.int ?_⟩
          rw [wrap_i64 _ (by omega) (by omega)]
          show _=((m+n-9223372036854775808:Nat):Int)
          omega
        · cases h
      · cases h
    · clear g
      obtain⟨rfl,rfl,h'⟩:=oSy_lf h
      clear h
      have h':(syInc u1 i1 m c).lf=some lf:=h'
      obtain⟨k,h1,h2,ha⟩:=syInc_lf h'
      clear h'
      refine⟨_,ha,fun α u v hu hv=>?_⟩
      cases hu with |int hu=>
      obtain⟨rfl,q1,q2⟩:=rep_sm hv
      refine⟨_,fun w=>by simp [eqGuard,binOp,Op.intArith];rfl,sm_rep ?_ (by rw [inc_val];omega) h2⟩
      rw [wrap_i64 _ (by omega) (by omega),inc_val]
      omega
  · obtain⟨rfl,rfl,g'⟩:=oSy_lf g
    clear h g
    rcases oIntE_lf g' with ⟨n,rfl,h⟩|⟨g2,b2,u2,i2,rfl,h⟩
    · obtain⟨k,h1,h2,ha⟩:=syInc_lf h
      refine⟨_,ha,fun α u v hu hv=>?_⟩
      cases hv with |int hv=>
      obtain⟨rfl,q1,q2⟩:=rep_sm hu
      refine⟨_,fun w=>by simp [eqGuard,binOp,Op.intArith];rfl,sm_rep ?_ (by rw [inc_val];omega) h2⟩
      rw [wrap_i64 _ (by omega) (by omega),inc_val]
      omega
    · obtain⟨rfl,rfl,h⟩:=oSy_lf h
      obtain⟨h1,h2,h⟩:=syAdd_lf h
      refine⟨_,h,fun α u v hu hv=>?_⟩
      obtain⟨rfl,q1,q2⟩:=rep_sm hu
      obtain⟨rfl,q3,q4⟩:=rep_sm hv
      refine⟨_,fun w=>by simp [eqGuard,binOp,Op.intArith];rfl,sm_rep ?_ (by rw [nc_val h1];omega) h2⟩
      rw [wrap_i64 _ (by omega) (by omega),nc_val h1]
      omega
theorem s_sub {a b:A}{c:A→R}(h:(oSub a b c).lf=some lf):∃ r,(c r).lf=some lf∧Bin P .sub t x y a b r:=by
  obtain⟨m,rfl,g⟩:=oInt_lf h
  obtain⟨n,rfl,h⟩:=oInt_lf g
  clear g
  rcases rec_lf h with ⟨h1,h⟩|⟨_,h⟩
  · rcases rec_lf h with ⟨h2,h⟩|⟨_,h⟩
    · refine⟨_,h,fun α u v hu hv=>?_⟩
      have h1:n≤m+9223372036854775808:=ble h1
      have h2:m≤n+9223372036854775807:=ble h2
      cases hu with |int hu=>cases hv with |int hv=>
      refine⟨_,fun w=>by simp [eqGuard,binOp,Op.intArith];rfl,.int ?_⟩
      rw [wrap_i64 _ (by omega) (by omega)]
      show _=((m+9223372036854775808-n:Nat):Int)
      omega
    · cases h
  · cases h
theorem s_mul {a b:A}{c:A→R}(h:(oMul a b c).lf=some lf):∃ r,(c r).lf=some lf∧Bin P .mul t x y a b r:=by
  rcases oIntE_lf h with ⟨m,rfl,g⟩|⟨g0,b0,u0,i0,rfl,g⟩
  case inr=>
    clear h
    obtain⟨rfl,rfl,ha⟩:=oSy_lf g
    clear g
    rcases oIntE_lf ha with ⟨n,rfl,h'⟩|⟨g1,b1,u1,i1,rfl,h'⟩
    · cases h'
    clear ha
    obtain⟨rfl,rfl,h⟩:=oSy_lf h'
    clear h'
    refine⟨_,h,fun α u v hu hv=>?_⟩
    obtain⟨rfl,q1,q2⟩:=rep_sm hu
    obtain⟨rfl,q3,q4⟩:=rep_sm hv
    have hb:Nu.val i0 * Nu.val i1≤999 * 999:=Nat.mul_le_mul (by omega) (by omega)
    refine⟨_,fun w=>by simp [eqGuard,binOp,Op.intArith];rfl,?_⟩
    have hw:IntKind.i64.wrap ((Nu.val i0 * Nu.val i1:Nat):Int)=((Nu.val i0 * Nu.val i1:Nat):Int):=by
      generalize Nu.val i0 * Nu.val i1=z at hb ⊢
      exact wrap_i64 _ (by omega) (by omega)
    rw [show ((Nu.val i0:Nat):Int) * ((Nu.val i1:Nat):Int)=((Nu.val i0 * Nu.val i1:Nat):Int)from(Int.natCast_mul _ _).symm,hw]
    exact .ref (.prd (by omega) (by omega))
  rcases oIntE_lf g with ⟨n,rfl,h'⟩|⟨g1,b1,u1,i1,rfl,h'⟩
  case inr=>
    clear h g
    obtain⟨rfl,rfl,ha⟩:=oSy_lf h'
    obtain⟨h0,hb⟩:=oCk_lf ha
    obtain⟨h1,h2,h⟩:=syAdd_lf hb
    clear h' ha hb
    have h0:m=9223372036854775810:=beq h0
    refine⟨_,h,fun α u v hu hv=>?_⟩
    cases hu with |int hu=>
    obtain⟨rfl,q1,q2⟩:=rep_sm hv
    rename_i p
    have hp:p=2:=by omega
    subst hp
    refine⟨_,fun w=>by simp [eqGuard,binOp,Op.intArith];rfl,sm_rep ?_ (by rw [nc_val h1];omega) h2⟩
    rw [wrap_i64 _ (by omega) (by omega),nc_val h1]
    omega
  clear h g
  have h:=h'
  clear h'
  obtain⟨h1,h⟩:=oCk_lf h
  obtain⟨h2,h⟩:=oCk_lf h
  obtain⟨h3,h⟩:=oCk_lf h
  refine⟨_,h,fun α u v hu hv=>?_⟩
  have h1:9223372036854775808≤m:=ble h1
  have h2:9223372036854775808≤n:=ble h2
  have h3:(m-9223372036854775808) * (n-9223372036854775808)≤9223372036854775807:=ble h3
  cases hu with |int hu=>cases hv with |int hv=>
  rename_i p q
  refine⟨_,fun w=>by simp [eqGuard,binOp,Op.intArith];rfl,.int ?_⟩
  obtain⟨p',rfl⟩:=Int.eq_ofNat_of_zero_le (show (0:Int)≤p by omega)
  obtain⟨q',rfl⟩:=Int.eq_ofNat_of_zero_le (show (0:Int)≤q by omega)
  obtain⟨e1,e2⟩:m-9223372036854775808=p'∧n-9223372036854775808=q':=⟨by omega,by omega⟩
  rw [e1,e2]at h3
  have e3:(p':Int) * (q':Int)=((p' * q':Nat):Int):=by simp
  rw [e3,wrap_i64 _ (by omega) (by omega)]
  show _=((9223372036854775808+(m-9223372036854775808) * (n-9223372036854775808):Nat):Int)
  rw [e1,e2]
  omega
theorem s_quo {a b:A}{c:A→R}(h:(oQuo a b c).lf=some lf):∃ r,(c r).lf=some lf∧Bin P .quo t x y a b r:=by
  rcases oIntE_lf h with ⟨m,rfl,g⟩|⟨g0,b0,i0,j0,rfl,g⟩
  case inr=>
    clear h
    obtain⟨k1,g⟩:=oCk_lf g
    obtain⟨k2,g⟩:=oCk_lf g
    obtain⟨n,rfl,g⟩:=oInt_lf g
    obtain⟨k3,h⟩:=oCk_lf g
    have k1:g0=8:=beq k1
    have k2:b0=9:=beq k2
    have k3:n=9223372036854775810:=beq k3
    subst k1;subst k2;subst k3
    refine⟨_,h,fun α u v hu hv=>?_⟩
    cases hv with |int hv=>
    obtain⟨rfl,q1,q2⟩:=rep_prd hu
    rename_i p
    have hp:p=2:=by omega
    subst hp
    have hb:Nu.val i0 * Nu.val j0≤999 * 999:=Nat.mul_le_mul q1 q2
    refine⟨.int .i64 (IntKind.i64.wrap ((((Nu.val i0 * Nu.val j0:Nat):Int)).tdiv 2)),fun w=>by simp only [eqGuard,binOp,Op.intDiv,if_neg (show (2:Int)≠0 by decide)];simp,?_⟩
    have hw:IntKind.i64.wrap ((Nu.val i0 * Nu.val j0 / 2:Nat):Int)=((Nu.val i0 * Nu.val j0 / 2:Nat):Int):=by
      generalize Nu.val i0 * Nu.val j0=z at hb ⊢
      exact wrap_i64 _ (by omega) (by omega)
    rw [show (((Nu.val i0 * Nu.val j0:Nat):Int)).tdiv 2=((Nu.val i0 * Nu.val j0 / 2:Nat):Int)from rfl,hw]
    exact .ref (.hf q1 q2)
  obtain⟨n,rfl,h⟩:=oInt_lf g
  clear g
  obtain⟨h1,h⟩:=oCk_lf h
  obtain⟨h2,h⟩:=oCk_lf h
  obtain⟨h3,h⟩:=oCk_lf h
  refine⟨_,h,fun α u v hu hv=>?_⟩
  have h1:9223372036854775808≤m:=ble h1
  have h2:9223372036854775808<n:=blt h2
  have h3:m≤18446744073709551615:=ble h3
  cases hu with |int hu=>cases hv with |int hv=>
  rename_i p q
  obtain⟨p',rfl⟩:=Int.eq_ofNat_of_zero_le (show (0:Int)≤p by omega)
  obtain⟨q',rfl⟩:=Int.eq_ofNat_of_zero_le (show (0:Int)≤q by omega)
  obtain⟨e1,e2⟩:m-9223372036854775808=p'∧n-9223372036854775808=q':=⟨by omega,by omega⟩
  have hq:(q':Int)≠0:=by omega
  refine⟨.int .i64 (IntKind.i64.wrap ((p':Int).tdiv q')),fun w=>by simp only [eqGuard,binOp,Op.intDiv,if_neg hq];simp,.int ?_⟩
  have hle:p' / q'≤p':=Nat.div_le_self _ _
  show IntKind.i64.wrap ((p' / q':Nat):Int)+9223372036854775808=((9223372036854775808+(m-9223372036854775808) / (n-9223372036854775808):Nat):Int)
  rw [e1,e2]
  generalize p' / q'=z at hle
  rw [wrap_i64 _ (by omega) (by omega)]
  omega
theorem rep_raw {α:Al}{v:Value}{u i:Nat}(h:Rep α v (.ref 8 1 u i)):∃ k:Nat,v=.int .i64 k∧k % u=Nu.val i:=by
  cases h with |ref h=>
  generalize hg:8=g at h
  generalize hb:1=b at h
  cases h with
  |raw h1=>exact⟨_,rfl,h1⟩
  |sl _ hg'=>omega
  |_=>omega
theorem rep_rst {α:Al}{v:Value}{u i:Nat}(h:Rep α v (.ref 8 2 u i)):∃ k:Nat,v=.int .i64 k∧k % u=i:=by
  cases h with |ref h=>
  generalize hg:8=g at h
  generalize hb:2=b at h
  cases h with
  |rst h1=>exact⟨_,rfl,h1⟩
  |sl _ hg'=>omega
  |_=>omega
theorem s_rem {a b:A}{c:A→R}(h:(oRem a b c).lf=some lf):∃ r,(c r).lf=some lf∧Bin P .rem t x y a b r:=by
  rcases oIntE_lf h with ⟨m,rfl,g⟩|⟨g1,b1,u1,i1,rfl,g⟩
  case inr=>
    obtain⟨g2,g⟩:=oCk_lf g
    have g2:g1=8:=beq g2
    subst g2
    obtain⟨m,rfl,h'⟩:=oInt_lf g
    obtain⟨h1,h2⟩:=oCk_lf h'
    obtain⟨h3,h4⟩:=oCk_lf h2
    obtain⟨h5,h6⟩:=oCk_lf h4
    clear h g h' h2 h4
    have h1:m=9223372036854775808+u1:=beq h1
    have h3:0<u1:=blt h3
    have h5:u1≤1000:=ble h5
    subst h1
    rcases rec_lf h6 with ⟨h7,h⟩|⟨_,h⟩
    · have h7:b1=1:=beq h7
      subst h7
      refine⟨_,h,fun α u v hu hv=>?_⟩
      cases hv with |int hv=>
      rename_i q
      have hq:q=(u1:Int):=by omega
      subst hq
      obtain⟨k,rfl,hk⟩:=rep_raw hu
      have hq:(u1:Int)≠0:=by omega
      have hlt:k % u1<u1:=Nat.mod_lt _ h3
      refine⟨.int .i64 ((k:Int).tmod u1),fun w=>by simp only [eqGuard,binOp,Op.intDiv,if_neg hq];simp,sm_rep ?_ ?_ ?_⟩
      · show((k % u1:Nat):Int)=_
        rw [hk]
      · show _≤u1-1
        omega
      · show u1-1≤999
        omega
    · obtain⟨h7,h⟩:=oCk_lf h
      have h7:b1=2:=beq h7
      subst h7
      refine⟨_,h,fun α u v hu hv=>?_⟩
      cases hv with |int hv=>
      rename_i q
      have hq:q=(u1:Int):=by omega
      subst hq
      obtain⟨k,rfl,hk⟩:=rep_rst hu
      have hq:(u1:Int)≠0:=by omega
      refine⟨.int .i64 ((k:Int).tmod u1),fun w=>by simp only [eqGuard,binOp,Op.intDiv,if_neg hq];simp,.int ?_⟩
      show((k % u1:Nat):Int)+9223372036854775808=((9223372036854775808+i1:Nat):Int)
      rw [hk]
      omega
  obtain⟨n,rfl,h⟩:=oInt_lf g
  clear g
  obtain⟨h1,h⟩:=oCk_lf h
  obtain⟨h2,h⟩:=oCk_lf h
  refine⟨_,h,fun α u v hu hv=>?_⟩
  have h1:9223372036854775808≤m:=ble h1
  have h2:9223372036854775808<n:=blt h2
  cases hu with |int hu=>cases hv with |int hv=>
  rename_i p q
  obtain⟨p',rfl⟩:=Int.eq_ofNat_of_zero_le (show (0:Int)≤p by omega)
  obtain⟨q',rfl⟩:=Int.eq_ofNat_of_zero_le (show (0:Int)≤q by omega)
  obtain⟨e1,e2⟩:m-9223372036854775808=p'∧n-9223372036854775808=q':=⟨by omega,by omega⟩
  have hq:(q':Int)≠0:=by omega
  refine⟨.int .i64 ((p':Int).tmod q'),fun w=>by simp only [eqGuard,binOp,Op.intDiv,if_neg hq];simp,.int ?_⟩
  show((p' % q':Nat):Int)+9223372036854775808=((9223372036854775808+(m-9223372036854775808) % (n-9223372036854775808):Nat):Int)
  rw [e1,e2]
  generalize p' % q'=z
  omega
theorem syLt_lf {g b u i m:Nat}{c:Bool→R}(h:(syLt g b u m c).lf=some lf):g=8∧∃ t,(c t).lf=some lf∧∀(α:Al) (v:Value),Rep α v (.ref g b u i)→∃ n:Nat,v=.int .i64 n∧(t=true→n+9223372036854775808<m)∧(t=false→m≤n+9223372036854775808):=by
  obtain⟨h1,ha⟩:=oCk_lf h
  have h1:g=8:=beq h1
  subst h1
  clear h
  refine⟨rfl,?_⟩
  rcases rec_lf ha with ⟨h2,hb⟩|⟨_,hb⟩
  · have h2:b=0:=beq h2
    subst h2
    clear ha
    rcases rec_lf hb with ⟨h3,hc⟩|⟨_,hc⟩
    · have h3:9223372036854775808+u<m:=blt h3
      refine⟨true,hc,fun α v hv=>?_⟩
      obtain⟨rfl,q1,q2⟩:=rep_sm hv
      exact⟨_,rfl,fun _=>by omega,fun e=>(by cases e)⟩
    · rcases rec_lf hc with ⟨h3,hd⟩|⟨_,hd⟩
      · have h3:m≤9223372036854775808:=ble h3
        refine⟨false,hd,fun α v hv=>?_⟩
        obtain⟨rfl,q1,q2⟩:=rep_sm hv
        exact⟨_,rfl,(fun e=>by cases e),fun _=>by omega⟩
      · exact bad_lf hd
  · obtain⟨h2,hc⟩:=oCk_lf hb
    have h2:b=8:=beq h2
    subst h2
    clear ha hb
    rcases rec_lf hc with ⟨h3,hd⟩|⟨_,hd⟩
    · have h3:u=0:=beq h3
      subst h3
      clear hc
      obtain⟨h4,he⟩:=oCk_lf hd
      have h4:9223372036855824385≤m:=ble h4
      refine⟨true,he,fun α v hv=>?_⟩
      obtain⟨n,rfl,q⟩:=rep_ilen hv
      unfold lenK at q
      exact⟨_,rfl,fun _=>by omega,fun e=>(by cases e)⟩
    · obtain⟨h3,he⟩:=oCk_lf hd
      have h3:u=1:=beq h3
      subst h3
      clear hc hd
      obtain⟨h4,hf⟩:=oCk_lf he
      have h4:m≤9223372036855824385:=ble h4
      refine⟨false,hf,fun α v hv=>?_⟩
      obtain⟨n,rfl,q⟩:=rep_ilen hv
      unfold lenK at q
      exact⟨_,rfl,(fun e=>by cases e),fun _=>by omega⟩
theorem bno (t:Bool)(p:Prop) [Decidable p] (h1:t=true→¬ p)(h2:t=false→p):decide p=(@Bool.rec (fun _=>Bool) true false t):=by
  cases t
  · exact decide_eq_true (h2 rfl)
  · exact decide_eq_false (h1 rfl)
theorem byes (t:Bool)(p:Prop) [Decidable p] (h1:t=true→p)(h2:t=false→¬ p):decide p=t:=by
  cases t
  · exact decide_eq_false (h2 rfl)
  · exact decide_eq_true (h1 rfl)
theorem s_lt {a b:A}{c:A→R}(h:(oLt a b c).lf=some lf):∃ r,(c r).lf=some lf∧Bin P .lss t x y a b r∧Bin P .gtr t x y b a r:=by
  rcases oIntE_lf h with ⟨m,rfl,g⟩|⟨g1,b1,o1,n1,rfl,g⟩
  · clear h
    rcases oIntE_lf g with ⟨n,rfl,h⟩|⟨g1,b1,o1,n1,rfl,h⟩
    · refine⟨_,h,fun α u v hu hv=>?_,fun α u v hu hv=>?_⟩<;>
      · cases hu with |int hu=>cases hv with |int hv=>
        refine⟨_,fun w=>by simp [eqGuard,binOp,Op.intCmp];rfl,rep_b ?_⟩
        rw [nat_blt];apply decide_eq_decide.2;omega
    · obtain⟨rfl,t,h,q⟩:=syLt_lf (i:=n1) h
      refine⟨_,h,fun α u v hu hv=>?_,fun α u v hu hv=>?_⟩
      · cases hu with |int hu=>
        obtain⟨n,rfl,q1,q2⟩:=q _ _ hv
        exact⟨_,fun w=>by simp [eqGuard,binOp,Op.intCmp];rfl,rep_b (bno _ _ (fun e=>by have:=q1 e;omega) (fun e=>by have:=q2 e;omega))⟩
      · cases hv with |int hv=>
        obtain⟨n,rfl,q1,q2⟩:=q _ _ hu
        exact⟨_,fun w=>by simp [eqGuard,binOp,Op.intCmp];rfl,rep_b (bno _ _ (fun e=>by have:=q1 e;omega) (fun e=>by have:=q2 e;omega))⟩
  · clear h
    rcases oIntE_lf g with ⟨m,rfl,h'⟩|⟨g2,b2,o2,n2,rfl,h'⟩
    case inr=>
      clear g
      obtain⟨rfl,rfl,ha⟩:=oSy_lf h'
      clear h'
      obtain⟨rfl,rfl,hb⟩:=oSy_lf ha
      clear ha
      obtain⟨k1,hb⟩:=oCk_lf hb
      obtain⟨k2,h⟩:=oCk_lf hb
      have k1:n1<n2:=blt k1
      have k2:(n2-n1) % 1000=0:=beq k2
      have key:Nu.val n1<Nu.val n2:=by
        unfold Nu.val
        have e1:n2 % 10=n1 % 10:=by omega
        have e2:n2 / 10 % 10=n1 / 10 % 10:=by omega
        have e3:n2 / 100 % 10=n1 / 100 % 10:=by omega
        rw [e1,e2,e3]
        exact Nat.add_lt_add_left (by omega) _
      refine⟨_,h,fun α u v hu hv=>?_,fun α u v hu hv=>?_⟩
      · obtain⟨rfl,q1,q2⟩:=rep_sm hu
        obtain⟨rfl,q3,q4⟩:=rep_sm hv
        exact⟨_,fun w=>by simp [eqGuard,binOp,Op.intCmp];rfl,rep_b (decide_eq_true (by omega))⟩
      · obtain⟨rfl,q1,q2⟩:=rep_sm hu
        obtain⟨rfl,q3,q4⟩:=rep_sm hv
        exact⟨_,fun w=>by simp [eqGuard,binOp,Op.intCmp];rfl,rep_b (decide_eq_true (by omega))⟩
    clear g
    obtain⟨rfl,t,h,q⟩:=syLt_lf (i:=n1) h'
    refine⟨_,h,fun α u v hu hv=>?_,fun α u v hu hv=>?_⟩
    · cases hv with |int hv=>
      obtain⟨n,rfl,q1,q2⟩:=q _ _ hu
      exact⟨_,fun w=>by simp [eqGuard,binOp,Op.intCmp];rfl,rep_b (byes _ _ (fun e=>by have:=q1 e;omega) (fun e=>by have:=q2 e;omega))⟩
    · cases hu with |int hu=>
      obtain⟨n,rfl,q1,q2⟩:=q _ _ hv
      exact⟨_,fun w=>by simp [eqGuard,binOp,Op.intCmp];rfl,rep_b (byes _ _ (fun e=>by have:=q1 e;omega) (fun e=>by have:=q2 e;omega))⟩
theorem s_le {a b:A}{c:A→R}(h:(oLe a b c).lf=some lf):∃ r,(c r).lf=some lf∧Bin P .leq t x y a b r∧Bin P .geq t x y b a r:=by
  rcases oIntE_lf h with ⟨m,rfl,g⟩|⟨g1,b1,o1,n1,rfl,g⟩
  · clear h
    rcases oIntE_lf g with ⟨n,rfl,h⟩|⟨g1,b1,o1,n1,rfl,h⟩
    · refine⟨_,h,fun α u v hu hv=>?_,fun α u v hu hv=>?_⟩<;>
      · cases hu with |int hu=>cases hv with |int hv=>
        refine⟨_,fun w=>by simp [eqGuard,binOp,Op.intCmp];rfl,rep_b ?_⟩
        rw [nat_ble];apply decide_eq_decide.2;omega
    · obtain⟨rfl,t,h,q⟩:=syLt_lf (i:=n1) h
      refine⟨_,h,fun α u v hu hv=>?_,fun α u v hu hv=>?_⟩
      · cases hu with |int hu=>
        obtain⟨n,rfl,q1,q2⟩:=q _ _ hv
        exact⟨_,fun w=>by simp [eqGuard,binOp,Op.intCmp];rfl,rep_b (bno _ _ (fun e=>by have:=q1 e;omega) (fun e=>by have:=q2 e;omega))⟩
      · cases hv with |int hv=>
        obtain⟨n,rfl,q1,q2⟩:=q _ _ hu
        exact⟨_,fun w=>by simp [eqGuard,binOp,Op.intCmp];rfl,rep_b (bno _ _ (fun e=>by have:=q1 e;omega) (fun e=>by have:=q2 e;omega))⟩
  · obtain⟨m,rfl,h'⟩:=oInt_lf g
    clear h g
    obtain⟨rfl,t,h,q⟩:=syLt_lf (i:=n1) h'
    refine⟨_,h,fun α u v hu hv=>?_,fun α u v hu hv=>?_⟩
    · cases hv with |int hv=>
      obtain⟨n,rfl,q1,q2⟩:=q _ _ hu
      exact⟨_,fun w=>by simp [eqGuard,binOp,Op.intCmp];rfl,rep_b (byes _ _ (fun e=>by have:=q1 e;omega) (fun e=>by have:=q2 e;omega))⟩
    · cases hu with |int hu=>
      obtain⟨n,rfl,q1,q2⟩:=q _ _ hv
      exact⟨_,fun w=>by simp [eqGuard,binOp,Op.intCmp];rfl,rep_b (byes _ _ (fun e=>by have:=q1 e;omega) (fun e=>by have:=q2 e;omega))⟩
theorem s_eq {a b:A}{c:A→R}(h:(oEqI a b c).lf=some lf):∃ r,(c r).lf=some lf∧Bin P .eql t x y a b r:=by
  rcases oIntE_lf h with ⟨m,rfl,g⟩|⟨g1,b1,u1,i1,rfl,g⟩
  · obtain⟨n,rfl,h⟩:=oInt_lf g
    clear g
    refine⟨_,h,fun α u v hu hv=>?_⟩
    cases hu with |int hu=>cases hv with |int hv=>
    refine⟨_,fun w=>by simp [eqGuard,binOp,Op.intCmp,int_beq];rfl,rep_b ?_⟩
    rw [nat_beq];apply decide_eq_decide.2;omega
  · obtain⟨rfl,rfl,g'⟩:=oSy_lf g
    clear h g
    rcases oIntE_lf g' with ⟨n,rfl,h⟩|⟨g2,b2,u2,i2,rfl,h⟩
    · cases h
    · obtain⟨rfl,rfl,h⟩:=oSy_lf h
      have h:(oCk (Nat.beq i1 i2) (c (.bool true))).lf=some lf:=h
      obtain⟨h1,h⟩:=oCk_lf h
      refine⟨_,h,fun α u v hu hv=>?_⟩
      obtain rfl:i1=i2:=beq h1
      obtain⟨rfl,_,_⟩:=rep_sm hu
      obtain⟨rfl,_,_⟩:=rep_sm hv
      exact⟨.bool true,fun w=>by simp [eqGuard,binOp,Op.intCmp],rep_b rfl⟩
theorem s_ne {a b:A}{c:A→R}(h:(oNeI a b c).lf=some lf):∃ r,(c r).lf=some lf∧Bin P .neq t x y a b r:=by
  obtain⟨m,rfl,g⟩:=oInt_lf h
  obtain⟨n,rfl,h⟩:=oInt_lf g
  clear g
  refine⟨_,h,fun α u v hu hv=>?_⟩
  cases hu with |int hu=>cases hv with |int hv=>
  rename_i p q
  refine⟨.bool (p != q),fun w=>by simp [eqGuard,binOp,Op.intCmp],rep_b ?_⟩
  rw [int_bne,brec_not,nat_beq];congr 1;apply decide_eq_decide.2;omega
theorem t_lt {a b:A}{c:A→R}(h:(bLt a b c).lf=some lf):∃ r,(c r).lf=some lf∧Bin P .lss t x y a b r∧Bin P .gtr t x y b a r:=by
  obtain⟨m,rfl,g⟩:=oByt_lf h
  obtain⟨n,rfl,h⟩:=oByt_lf g
  clear g
  refine⟨_,h,fun α u v hu hv=>?_,fun α u v hu hv=>?_⟩<;>
  · cases hu with |byt hu _=>cases hv with |byt hv _=>
    refine⟨_,fun w=>by simp [eqGuard,binOp,Op.intCmp];rfl,rep_b ?_⟩
    rw [nat_blt];apply decide_eq_decide.2;omega
theorem t_le {a b:A}{c:A→R}(h:(bLe a b c).lf=some lf):∃ r,(c r).lf=some lf∧Bin P .leq t x y a b r∧Bin P .geq t x y b a r:=by
  obtain⟨m,rfl,g⟩:=oByt_lf h
  obtain⟨n,rfl,h⟩:=oByt_lf g
  clear g
  refine⟨_,h,fun α u v hu hv=>?_,fun α u v hu hv=>?_⟩<;>
  · cases hu with |byt hu _=>cases hv with |byt hv _=>
    refine⟨_,fun w=>by simp [eqGuard,binOp,Op.intCmp];rfl,rep_b ?_⟩
    rw [nat_ble];apply decide_eq_decide.2;omega
theorem t_eq {a b:A}{c:A→R}(h:(bEq a b c).lf=some lf):∃ r,(c r).lf=some lf∧Bin P .eql t x y a b r:=by
  obtain⟨m,rfl,g⟩:=oByt_lf h
  obtain⟨n,rfl,h⟩:=oByt_lf g
  clear g
  refine⟨_,h,fun α u v hu hv=>?_⟩
  cases hu with |byt hu _=>cases hv with |byt hv _=>
  refine⟨_,fun w=>by simp [eqGuard,binOp,Op.intCmp,int_beq];rfl,rep_b ?_⟩
  rw [nat_beq];apply decide_eq_decide.2;omega
theorem t_ne {a b:A}{c:A→R}(h:(bNe a b c).lf=some lf):∃ r,(c r).lf=some lf∧Bin P .neq t x y a b r:=by
  obtain⟨m,rfl,g⟩:=oByt_lf h
  obtain⟨n,rfl,h⟩:=oByt_lf g
  clear g
  refine⟨_,h,fun α u v hu hv=>?_⟩
  cases hu with |byt hu hu1=>cases hv with |byt hv hv1=>
  rename_i p q
  refine⟨.bool (p != q),fun w=>by simp [eqGuard,binOp,Op.intCmp],rep_b ?_⟩
  rw [int_bne,brec_not,nat_beq];congr 1;apply decide_eq_decide.2;omega
theorem t_add {a b:A}{c:A→R}(h:(bAdd a b c).lf=some lf):∃ r,(c r).lf=some lf∧Bin P .add t x y a b r:=by
  obtain⟨m,rfl,g⟩:=oByt_lf h
  obtain⟨n,rfl,h⟩:=oByt_lf g
  clear g
  obtain⟨h1,h⟩:=oCk_lf h
  refine⟨_,h,fun α u v hu hv=>?_⟩
  have h1:m+n≤255:=ble h1
  cases hu with |byt hu _=>cases hv with |byt hv _=>
  refine⟨_,fun w=>by simp [eqGuard,binOp,Op.intArith];rfl,.byt ?_ ?_⟩
  · rw [wrap_u8 _ (by omega) (by omega)]
    show _=((m+n:Nat):Int)
    omega
  · show m+n<256;omega
theorem t_sub {a b:A}{c:A→R}(h:(bSub a b c).lf=some lf):∃ r,(c r).lf=some lf∧Bin P .sub t x y a b r:=by
  obtain⟨m,rfl,g⟩:=oByt_lf h
  obtain⟨n,rfl,h⟩:=oByt_lf g
  clear g
  obtain⟨h1,h⟩:=oCk_lf h
  refine⟨_,h,fun α u v hu hv=>?_⟩
  have h1:n≤m:=ble h1
  cases hu with |byt hu _=>cases hv with |byt hv _=>
  refine⟨_,fun w=>by simp [eqGuard,binOp,Op.intArith];rfl,.byt ?_ ?_⟩
  · rw [wrap_u8 _ (by omega) (by omega)]
    show _=((m-n:Nat):Int)
    omega
  · show m-n<256;omega
theorem run_eqb {P:Program}{t:TypeId}(hu:P.underlying t=some .bool)(a b:Bool)(w:World):(Op.equal t (.bool a) (.bool b)).run P w=.ok (a == b) w:=by
  exact run_equalIn_bool w 9999 t a b hu
theorem s_eqB {a b:A}{c:A→R}(hu:P.underlying t=some .bool)(h:(oEqB a b c).lf=some lf):∃ r,(c r).lf=some lf∧Bin P .eql t x y a b r:=by
  obtain⟨m,rfl,g⟩:=oBool_lf h
  obtain⟨n,rfl,h⟩:=oBool_lf g
  clear g
  refine⟨_,h,fun α u v hu' hv=>?_⟩
  cases hu';cases hv
  exact⟨.bool (m == n),fun w=>by simp [eqGuard,binOp,run_eqb hu],rep_b (eqb_eq _ _).symm⟩
theorem s_neB {a b:A}{c:A→R}(hu:P.underlying t=some .bool)(h:(oNeB a b c).lf=some lf):∃ r,(c r).lf=some lf∧Bin P .neq t x y a b r:=by
  obtain⟨m,rfl,g⟩:=oBool_lf h
  obtain⟨n,rfl,h⟩:=oBool_lf g
  clear g
  refine⟨_,h,fun α u v hu' hv=>?_⟩
  cases hu';cases hv
  exact⟨.bool (!(m == n)),fun w=>by simp [eqGuard,binOp,run_eqb hu],rep_b (by rw [brec_not,eqb_eq])⟩
end
end Go.X1

set_option maxRecDepth 100000
namespace Go.X1
variable [Nu]
theorem p256 (k:Nat):2 ^ (8 * k)=256 ^ k:=by rw [Nat.pow_mul]
theorem encB_lt:∀ l:List UInt8,encB l<256 ^ l.length
  | []=>by simp [encB]
  |b::r=>by
    have h:=encB_lt r
    have hb:b.toNat<256:=b.toNat_lt
    rw [List.length_cons,Nat.pow_succ]
    show b.toNat+encB r * 256<256 ^ r.length * 256
    omega
theorem encB_app:∀ l m:List UInt8,encB (l++m)=encB l+encB m * 256 ^ l.length
  | [],m=>by simp [encB]
  |b::r,m=>by
    rw [List.cons_append,List.length_cons,Nat.pow_succ]
    show b.toNat+encB (r++m) * 256=b.toNat+encB r * 256+encB m * (256 ^ r.length * 256)
    rw [encB_app r m,Nat.add_mul,Nat.add_assoc,Nat.mul_assoc]
theorem encB_drop:∀(l:List UInt8) (i:Nat),encB l / 256 ^ i=encB (l.drop i)
  |l,0=>by simp
  | [],i+1=>by simp [encB]
  |b::r,i+1=>by
    have hb:b.toNat<256:=b.toNat_lt
    rw [List.drop_succ_cons,← encB_drop r i,Nat.pow_succ,Nat.mul_comm,← Nat.div_div_eq_div_mul]
    congr 1
    show(b.toNat+encB r * 256) / 256=encB r
    omega
theorem encB_take:∀(l:List UInt8) (n:Nat),encB l % 256 ^ n=encB (l.take n)
  |l,0=>by simp [encB,Nat.mod_one]
  | [],n+1=>by simp [encB]
  |b::r,n+1=>by
    have hb:b.toNat<256:=b.toNat_lt
    rw [List.take_succ_cons]
    show(b.toNat+encB r * 256) % 256 ^ (n+1)=b.toNat+encB (r.take n) * 256
    rw [← encB_take r n,Nat.pow_succ,Nat.mul_comm (256 ^ n) 256,Nat.mod_mul]
    have e1:(b.toNat+encB r * 256) % 256=b.toNat:=by omega
    have e2:(b.toNat+encB r * 256) / 256=encB r:=by omega
    rw [e1,e2,Nat.mul_comm]
theorem encB_inj:∀ l m:List UInt8,l.length=m.length→encB l=encB m→l=m
  | [],[],_,_=>rfl
  | [],_::_,h,_=>by simp at h
  |_::_,[],h,_=>by simp at h
  |b::r,c::s,h,e=>by
    have hb:b.toNat<256:=b.toNat_lt
    have hc:c.toNat<256:=c.toNat_lt
    have e:b.toNat+encB r * 256=c.toNat+encB s * 256:=e
    have e1:b.toNat=c.toNat:=by omega
    rw [UInt8.toNat_inj.1 e1,encB_inj r s (by simpa using h) (by omega)]
theorem encB_byt (l:List UInt8)(i:Nat)(b:UInt8)(h:l[i]? =some b):byt (encB l) i=b.toNat:=by
  have hb:b.toNat<256:=b.toNat_lt
  have e:byt (encB l) i=encB l >>> (8 * i) % 256:=rfl
  rw [e,Nat.shiftRight_eq_div_pow,p256,encB_drop]
  obtain⟨hi,e2⟩:=List.getElem?_eq_some_iff.1 h
  rw [List.drop_eq_getElem_cons hi,e2]
  show(b.toNat+encB (l.drop (i+1)) * 256) % 256=b.toNat
  omega
theorem encB_sbt (l:List UInt8)(i j:Nat):sbt (encB l) i j=encB ((l.drop i).take (j-i)):=by
  have e:sbt (encB l) i j=encB l >>> (8 * i) % 2 ^ (8 * (j-i)):=rfl
  rw [e,Nat.shiftRight_eq_div_pow,p256,p256,encB_drop,encB_take]
theorem bsize (s:ByteArray):s.size=s.data.toList.length:=by
  cases s;simp [ByteArray.size]
section
variable {P:Program} {t:TypeId} {x y:Operand} {lf:Nat×A×H}
theorem str_beq (s u:ByteArray):(s.toList == u.toList)=seqb s.data.toList.length (encB s.data.toList) u.data.toList.length (encB u.data.toList):=by
  have e:seqb s.data.toList.length (encB s.data.toList) u.data.toList.length (encB u.data.toList)=(decide (s.data.toList.length=u.data.toList.length)&&decide (encB s.data.toList=encB u.data.toList)):=by
    unfold seqb
    rw [nat_beq,nat_beq]
    cases decide (s.data.toList.length=u.data.toList.length)<;>rfl
  rw [e,Bool.eq_iff_iff]
  simp only [ByteArray.toList_eq,beq_iff_eq,Bool.and_eq_true,decide_eq_true_eq]
  exact⟨fun h=>by rw [h];exact⟨rfl,rfl⟩,fun h=>encB_inj _ _ h.1 h.2⟩
theorem eqA_eq:∀(x y:A),eqA x y=true→x=y:=by
  intro x
  induction x with
  |int n=>intro y h;cases y<;>first|exact congrArg A.int (beq h)|cases h
  |byt n=>intro y h;cases y<;>first|exact congrArg A.byt (beq h)|cases h
  |bool b=>intro y h;cases y<;>first|(have h:eqb _ _=true:=h;rw [eqb_eq]at h;simpa using h)|cases h
  |str n N=>
    intro y h
    cases y with
    |str m M=>
      have h:(@Bool.rec (fun _=>Bool) false (Nat.beq N M) (Nat.beq n m))=true:=h
      cases hb:Nat.beq n m
      · rw [hb]at h;cases h
      · rw [hb]at h;rw [beq hb,beq h]
    |_=>cases h
  |ref g b o n=>
    intro y h
    cases y with
    |ref g2 b2 o2 n2=>
      have h:(@Bool.rec (fun _=>Bool) false (@Bool.rec (fun _=>Bool) false (@Bool.rec (fun _=>Bool) false (Nat.beq n n2) (Nat.beq o o2)) (Nat.beq b b2)) (Nat.beq g g2))=true:=h
      cases h1:Nat.beq g g2
      · rw [h1]at h;cases h
      · cases h2:Nat.beq b b2
        · rw [h1,h2]at h;cases h
        · cases h3:Nat.beq o o2
          · rw [h1,h2,h3]at h;cases h
          · rw [h1,h2,h3]at h;rw [beq h1,beq h2,beq h3,beq h]
    |_=>cases h
  |nd g l ih=>
    intro y h
    cases y with
    |nd g2 l2=>
      have h:(@Bool.rec (fun _=>Bool) false (eqA l l2) (Nat.beq g g2))=true:=h
      cases hb:Nat.beq g g2
      · rw [hb]at h;cases h
      · rw [hb]at h;rw [beq hb,ih l2 h]
    |_=>cases h
  |nl=>intro y h;cases y<;>first|rfl|cases h
  |cn a r i1 i2=>
    intro y h
    cases y with
    |cn a2 r2=>
      have h:(@Bool.rec (fun _=>Bool) false (eqA r r2) (eqA a a2))=true:=h
      cases hb:eqA a a2
      · rw [hb]at h;cases h
      · rw [hb]at h;rw [i1 a2 hb,i2 r2 h]
    |_=>cases h
theorem oStrE_lf {x:A}{k:Nat→Nat→R}{e:A→R}(h:(oStrE x k e).lf=some lf):(∃ n N,x=.str n N∧(k n N).lf=some lf)∨∃ l,x=.nd 2 l∧(e l).lf=some lf:=by
  cases x with
  |str n N=>exact .inl ⟨n,N,rfl,h⟩
  |nd g l=>
    obtain⟨h1,h⟩:=oCk_lf (r:=e l) h
    have h1:g=2:=beq h1
    subst h1
    exact .inr ⟨l,rfl,h⟩
  |_=>cases (show (none:Option (Nat×A×H))=some lf from h)
theorem rep_pst {α:Al}{v:Value}{l:A}(hv:Rep α v (.nd 2 l)):∃ s:ByteArray,v=.string s∧Pcs s.data.toList l:=by
  generalize hg:2=g at hv
  cases hv with
  |pst h=>exact⟨_,rfl,h⟩
  |fn hg' _=>omega
  |_=>omega
theorem Pcs.app:∀{a b:List UInt8} {k l:A},Pcs a k→Pcs b l→Pcs (a++b) (lapp k l)
  |_,_,_,_,.nil,h=>h
  |_,_,_,_,.byt h',h=>.byt (h'.app h)
  |_,_,_,_,.dg hv h0 h',h=>.dg hv h0 (h'.app h)
  |_,_,_,_,.it hv h',h=>by rw [List.append_assoc];exact .it hv (h'.app h)
  |_,_,_,_,.tx a b h',h=>by rw [List.append_assoc];exact .tx a b (h'.app h)
theorem pcs_bytes:∀ l:List UInt8,Pcs l (bytesL l.length (encB l))
  | []=>.nil
  |b::r=>by
    have hb:b.toNat<256:=b.toNat_lt
    have e1:encB (b::r) % 256=b.toNat:=by show(b.toNat+encB r * 256) % 256=_;omega
    have e2:encB (b::r) / 256=encB r:=by show(b.toNat+encB r * 256) / 256=_;omega
    rw [List.length_cons,show bytesL (r.length+1) (encB (b::r))=.cn (.byt (encB (b::r) % 256)) (bytesL r.length (encB (b::r) / 256))from rfl,e1,e2]
    exact .byt (pcs_bytes r)
theorem Pcs.uniq:∀{a b:List UInt8} {k:A},Pcs a k→Pcs b k→a=b
  |_,_,_,.nil,h=>by cases h;rfl
  |_,_,.cn _ k,.byt (b:=x) h',h=>by
    generalize hq:x.toNat=q at h
    cases h with
    |byt h=>rw [UInt8.toNat_inj.1 hq,h'.uniq h]
  |_,_,_,.dg _ h0 h',h=>by
    cases h with
    |dg _ h1 h=>rw [h0]at h1;cases h1;rw [h'.uniq h]
  |_,_,_,.it _ h',h=>by
    cases h with
    |it _ h=>rw [h'.uniq h]
  |_,_,_,.tx _ _ h',h=>by
    cases h with
    |tx _ _ h=>rw [h'.uniq h]
theorem dec_len:∀(f v:Nat),v<10 ^ (f+1)→(Lib.decDigits v).length≤f+1
  |0,v,h=>by rw [Lib.decDigits,dif_pos (by simpa using h)];simp
  |f+1,v,h=>by
    rw [Lib.decDigits]
    by_cases h1:v<10
    · rw [dif_pos h1];simp
    · rw [dif_neg h1,List.length_append]
      have:=dec_len f (v / 10) (by rw [Nat.pow_succ]at h;omega)
      simp;omega
theorem hf_le {i j:Nat}(hi:i≤999)(hj:j≤999):i * j / 2<10 ^ (5+1):=by
  have:i * j≤999 * 999:=Nat.mul_le_mul hi hj
  omega
theorem Pcs.len:∀{a:List UInt8} {k:A},Pcs a k→a.length≤6 * llen k
  |_,_,.nil=>Nat.zero_le _
  |_,_,.byt h=>by rw [llen_cn,List.length_cons];have:=h.len;omega
  |_,_,.dg _ _ h=>by rw [llen_cn,List.length_cons];have:=h.len;omega
  |_,_,.it (i:=i) _ h=>by rw [llen_cn,List.length_append];have:=h.len;have:=itB_len (Nu.val i);omega
  |_,_,.tx (i:=i) (j:=j) hi hj h=>by rw [llen_cn,List.length_append];have:=h.len;have:=dec_len 5 _ (hf_le hi hj);omega
theorem pcs_lf {x:A}{k:A→R}(h:(pcs x k).lf=some lf):∃ l,(k l).lf=some lf∧∀(α:Al) (v:Value),Rep α v x→∃ s:ByteArray,v=.string s∧Pcs s.data.toList l:=by
  rcases oStrE_lf h with ⟨n,N,rfl,h⟩|⟨l,rfl,h⟩
  · refine⟨_,h,fun α v hv=>?_⟩
    cases hv with
    |@str s _ _ h1 h2=>
      subst h1 h2
      exact⟨s,rfl,pcs_bytes _⟩
  · exact⟨l,h,fun α v hv=>rep_pst hv⟩
theorem eq_lists {s u:ByteArray}{l:A}(h1:Pcs s.data.toList l)(h2:Pcs u.data.toList l):(s.toList == u.toList)=true:=by
  rw [beq_iff_eq,ByteArray.toList_eq,ByteArray.toList_eq]
  exact h1.uniq h2
theorem s_eqS {a b:A}{c:A→R}(h:(oEqS a b c).lf=some lf):∃ r,(c r).lf=some lf∧Bin P .eql t x y a b r:=by
  rcases oStrE_lf h with ⟨n,N,rfl,g⟩|⟨k,rfl,g⟩
  · obtain⟨m,M,rfl,h'⟩:=oStr_lf g
    clear g h
    refine⟨_,h',fun α u v hu hv=>?_⟩
    cases hu with |str h1 h2=>cases hv with |str h3 h4=>
    subst h1 h2 h3 h4
    exact⟨_,fun w=>by simp only [eqGuard,binOp,Op.stringOp,str_beq];simp,.bool _⟩
  · rcases oStrE_lf g with ⟨m,M,rfl,h'⟩|⟨l,rfl,h'⟩
    · exact bad_lf h'
    · obtain⟨h1,h2⟩:=oCk_lf h'
      have h1:=eqA_eq _ _ h1
      clear h'
      subst h1
      refine⟨_,h2,fun α u v hu hv=>?_⟩
      obtain⟨s,rfl,q1⟩:=rep_pst hu
      obtain⟨s',rfl,q2⟩:=rep_pst hv
      have e:=eq_lists q1 q2
      exact⟨.bool (s.toList == s'.toList),fun w=>by simp [eqGuard,binOp,Op.stringOp],rep_b e⟩
theorem s_neS {a b:A}{c:A→R}(h:(oNeS a b c).lf=some lf):∃ r,(c r).lf=some lf∧Bin P .neq t x y a b r:=by
  rcases oStrE_lf h with ⟨n,N,rfl,g⟩|⟨k,rfl,g⟩
  · obtain⟨m,M,rfl,h'⟩:=oStr_lf g
    clear g h
    refine⟨_,h',fun α u v hu hv=>?_⟩
    cases hu with |@str s _ _ h1 h2=>cases hv with |@str u _ _ h3 h4=>
    subst h1 h2 h3 h4
    exact⟨.bool (!(s.toList == u.toList)),fun w=>by simp [eqGuard,binOp,Op.stringOp],rep_b (by rw [brec_not,str_beq])⟩
  · rcases oStrE_lf g with ⟨m,M,rfl,h'⟩|⟨l,rfl,h'⟩
    · exact bad_lf h'
    · obtain⟨h1,h2⟩:=oCk_lf h'
      have h1:=eqA_eq _ _ h1
      clear h'
      subst h1
      refine⟨_,h2,fun α u v hu hv=>?_⟩
      obtain⟨s,rfl,q1⟩:=rep_pst hu
      obtain⟨s',rfl,q2⟩:=rep_pst hv
      have e:=eq_lists q1 q2
      exact⟨.bool (!(s.toList == s'.toList)),fun w=>by simp [eqGuard,binOp,Op.stringOp],rep_b (by rw [e];rfl)⟩
theorem mkP_lf {l:A}{c:A→R}(h:(mkP l c).lf=some lf):llen l≤1000∧(c (.nd 2 l)).lf=some lf:=by
  obtain⟨h1,h⟩:=oCk_lf h
  exact⟨ble h1,h⟩
theorem cat_parts {k l:A}(hn:llen (lapp k l)≤1000){s u:ByteArray}(h1:Pcs s.data.toList k)(h2:Pcs u.data.toList l)(α:Al):
    ∃ z,(∀ w,(do eqGuard .add t x y (.string s) (.string u);binOp .add t (.string s) (.string u):Sem Value).run P w=.ok z w)∧Rep α z (.nd 2 (lapp k l)):=by
  have h3:=h1.app h2
  have h4:=h3.len
  rw [List.length_append]at h4
  have hle:¬ ((s.size+u.size:Nat):Int)>IntKind.i64.max:=by
    rw [bsize,bsize]
    show ¬ ((s.data.toList.length+u.data.toList.length:Nat):Int)>9223372036854775807
    omega
  refine⟨.string (s++u),fun w=>by simp only [eqGuard,binOp,Op.stringOp,if_neg hle];simp,.pst ?_⟩
  rw [ByteArray.data_append,Array.toList_append]
  exact h3
theorem s_cat {a b:A}{c:A→R}(h:(oSCat a b c).lf=some lf):∃ r,(c r).lf=some lf∧Bin P .add t x y a b r:=by
  rcases oStrE_lf h with ⟨n,N,rfl,g⟩|⟨k,rfl,g⟩
  · rcases oStrE_lf g with ⟨m,M,rfl,h'⟩|⟨l,rfl,h'⟩
    · clear h g
      obtain⟨hn,h⟩:=mkS_lf h'
      refine⟨_,h,fun α u v hu hv=>?_⟩
      cases hu with |@str s _ _ h1 h2=>cases hv with |@str u _ _ h3 h4=>
      have hn:n+m≤1000000:=hn
      have hle:¬ ((s.size+u.size:Nat):Int)>IntKind.i64.max:=by
        rw [bsize,bsize,h1,h3]
        show ¬ ((n+m:Nat):Int)>9223372036854775807
        omega
      refine⟨.string (s++u),fun w=>by simp only [eqGuard,binOp,Op.stringOp,if_neg hle];simp,.str ?_ ?_⟩
      · show(s++u).data.toList.length=n+m
        rw [ByteArray.data_append,Array.toList_append,List.length_append,h1,h3]
      · show encB (s++u).data.toList=N+M * 2 ^ (8 * n)
        rw [ByteArray.data_append,Array.toList_append,encB_app,h2,h4,h1,p256]
    · obtain⟨hn,h1⟩:=mkP_lf h'
      refine⟨_,h1,fun α u v hu hv=>?_⟩
      cases hu with |@str s _ _ h1 h2=>
      subst h1 h2
      obtain⟨s',rfl,q⟩:=rep_pst hv
      exact cat_parts hn (pcs_bytes _) q α
  · obtain⟨l,h',q⟩:=pcs_lf g
    obtain⟨hn,h1⟩:=mkP_lf h'
    refine⟨_,h1,fun α u v hu hv=>?_⟩
    obtain⟨s,rfl,q1⟩:=rep_pst hu
    obtain⟨s',rfl,q2⟩:=q _ _ hv
    exact cat_parts hn q1 q2 α
theorem nilP (gn lo hi:Nat)(neg:Bool){a:A}{c:A→R}(h:(oNil gn lo hi neg a c).lf=some lf):
    ∃ g b o n,a=.ref g b o n∧((g=gn∧(c (.bool (!neg))).lf=some lf)∨(lo≤g∧g≤hi∧g≠gn∧(c (.bool neg)).lf=some lf)):=by
  obtain⟨g,b,o,n,rfl,h⟩:=oRef_lf h
  refine⟨g,b,o,n,rfl,?_⟩
  rcases rec_lf h with ⟨h1,h⟩|⟨h1,h⟩
  · exact .inl ⟨beq h1,by rw [brec_not]at h;exact h⟩
  · obtain⟨h2,h⟩:=oCk_lf h
    obtain⟨h3,h⟩:=oCk_lf h
    refine .inr ⟨ble h2,ble h3,fun e=>?_,h⟩
    subst e
    rw [Nat.beq_refl]at h1;cases h1
def nilOp (neg:Bool):BinOp:=if neg then .neq else .eql
theorem bin_eq {neg:Bool}{u v:Value}{r:Bool}(hg:∀ w,(eqGuard (nilOp neg) t x y u v).run P w=.ok () w)(hb:binOp (nilOp neg) t u v=(if neg then do pure (.bool (!(← Op.equal t u v)))else do pure (.bool (← Op.equal t u v))))
    (he:∀ w,(Op.equal t u v).run P w=.ok r w):∀ w,(do eqGuard (nilOp neg) t x y u v;binOp (nilOp neg) t u v:Sem Value).run P w=.ok (.bool (neg != r)) w:=fun w=>by
  rw [Sem.run_bind,hg w]
  simp only [Result.andThen_ok,hb]
  cases neg<;>cases r<;>simp [he w]
theorem guard_ne {u v:Value}{neg:Bool}(h:¬ (u=.nilIface∧v=.nilIface))(h2:∀ cs ds,¬ (u=.agg cs∧v=.agg ds))(w:World):(eqGuard (nilOp neg) t x y u v).run P w=.ok () w:=by
  unfold eqGuard
  cases neg<;>simp only [nilOp]<;>simp<;>(split<;>first|exact absurd ⟨rfl,rfl⟩ h|exact absurd ⟨rfl,rfl⟩ (h2 _ _)|simp)
end
end Go.X1

set_option maxRecDepth 100000
namespace Go.X1
variable [Nu]
section
variable {P:Program} {t:TypeId} {x y:Operand} {lf:Nat×A×H}
theorem nil_slice {e:Nat}{neg:Bool}(hu:P.underlying t=some (.slice e)){a:A}{c:A→R}(h:(oNil 3 10 1000 neg a c).lf=some lf):∃ r,(c r).lf=some lf∧Bin P (nilOp neg) t x y a (.ref 3 0 0 0) r:=by
  obtain⟨g,b,o,n,rfl,i⟩:=nilP _ _ _ neg h
  clear h
  have key:∀(u:Option Addr) (l k:Nat),∀ w,(do eqGuard (nilOp neg) t x y (.slice u l k) (.slice none 0 0);binOp (nilOp neg) t (.slice u l k) (.slice none 0 0):Sem Value).run P w=.ok (.bool (neg != u.isNone)) w:=fun u l k=>
    bin_eq (guard_ne (by simp) (by simp)) (by cases neg<;>rfl) (fun w=>run_equal_slice_nil w t e u l k hu)
  rcases i with ⟨rfl,h⟩|⟨h1,h2,h3,h⟩
  · refine⟨_,h,fun α u v hu hv=>?_⟩
    cases hv with |ref hv=>cases hv with
    |sl _ hg=>omega
    |nsl=>cases hu with |ref hu=>cases hu with
      |sl _ hg=>omega
      |nsl=>exact⟨_,key _ _ _,rep_b (by cases neg<;>rfl)⟩
  · refine⟨_,h,fun α u v hu hv=>?_⟩
    cases hv with |ref hv=>cases hv with
    |sl _ hg=>omega
    |nsl=>cases hu with |ref hu=>cases hu with
      |sl _ hg=>exact⟨_,key _ _ _,rep_b (by cases neg<;>rfl)⟩
      |_=>omega
theorem nil_map {k e:Nat}{neg:Bool}(hu:P.underlying t=some (.map k e)){a:A}{c:A→R}(h:(oNil 5 2 2 neg a c).lf=some lf):∃ r,(c r).lf=some lf∧Bin P (nilOp neg) t x y a (.ref 5 0 0 0) r:=by
  obtain⟨g,b,o,n,rfl,i⟩:=nilP _ _ _ neg h
  clear h
  have key:∀(u:Option Nat),∀ w,(do eqGuard (nilOp neg) t x y (.map u) (.map none);binOp (nilOp neg) t (.map u) (.map none):Sem Value).run P w=.ok (.bool (neg != u.isNone)) w:=fun u=>
    bin_eq (guard_ne (by simp) (by simp)) (by cases neg<;>rfl) (fun w=>run_equal_map_nil w t k e u hu)
  rcases i with ⟨rfl,h⟩|⟨h1,h2,h3,h⟩
  · refine⟨_,h,fun α u v hu hv=>?_⟩
    cases hv with |ref hv=>cases hv with
    |sl _ hg=>omega
    |nmap=>cases hu with |ref hu=>cases hu with
      |sl _ hg=>omega
      |nmap=>exact⟨_,key _,rep_b (by cases neg<;>rfl)⟩
  · refine⟨_,h,fun α u v hu hv=>?_⟩
    cases hv with |ref hv=>cases hv with
    |sl _ hg=>omega
    |nmap=>cases hu with |ref hu=>cases hu with
      |map _=>exact⟨_,key _,rep_b (by cases neg<;>rfl)⟩
      |_=>omega
theorem run_eqp0 {e:Nat}(hu:P.underlying t=some (.pointer e))(p:Option Addr)(w:World)(n:Nat):(Op.equalIn (n+1) t (.pointer p) (.pointer none)).run P w=.ok p.isNone w:=by
  cases p<;>simp [Op.equalIn,run_underlying hu]
theorem run_eqp {e:Nat}(hu:P.underlying t=some (.pointer e))(p:Option Addr)(w:World):(Op.equal t (.pointer p) (.pointer none)).run P w=.ok p.isNone w:=run_eqp0 hu p w 9999
theorem nil_ptr {e:Nat}{neg:Bool}(hu:P.underlying t=some (.pointer e)){a:A}{c:A→R}(h:(oNil 4 1 1 neg a c).lf=some lf):∃ r,(c r).lf=some lf∧Bin P (nilOp neg) t x y a (.ref 4 0 0 0) r:=by
  obtain⟨g,b,o,n,rfl,i⟩:=nilP _ _ _ neg h
  clear h
  have key:∀(u:Option Addr),∀ w,(do eqGuard (nilOp neg) t x y (.pointer u) (.pointer none);binOp (nilOp neg) t (.pointer u) (.pointer none):Sem Value).run P w=.ok (.bool (neg != u.isNone)) w:=fun u=>
    bin_eq (guard_ne (by simp) (by simp)) (by cases neg<;>cases u<;>rfl) (fun w=>run_eqp hu u w)
  rcases i with ⟨rfl,h⟩|⟨h1,h2,h3,h⟩
  · refine⟨_,h,fun α u v hu hv=>?_⟩
    cases hv with |ref hv=>cases hv with
    |sl _ hg=>omega
    |nptr=>cases hu with |ref hu=>cases hu with
      |sl _ hg=>omega
      |nptr=>exact⟨_,key _,rep_b (by cases neg<;>rfl)⟩
  · refine⟨_,h,fun α u v hu hv=>?_⟩
    cases hv with |ref hv=>cases hv with
    |sl _ hg=>omega
    |nptr=>cases hu with |ref hu=>cases hu with
      |ptr _ _=>exact⟨_,key _,rep_b (by cases neg<;>rfl)⟩
      |_=>omega
theorem run_eqi0 {ms:Array (String×TypeId)}(hu:P.underlying t=some (.interface ms))(w:World)(n:Nat):(Op.equalIn (n+1) t .nilIface .nilIface).run P w=.ok true w:=by
  simp [Op.equalIn,run_underlying hu]
theorem run_eqi {ms:Array (String×TypeId)}(hu:P.underlying t=some (.interface ms))(w:World):(Op.equal t .nilIface .nilIface).run P w=.ok true w:=run_eqi0 hu w 9999
theorem run_eqi2 {ms:Array (String×TypeId)}(hu:P.underlying t=some (.interface ms))(s:TypeId)(v:Value)(w:World)(n:Nat):(Op.equalIn (n+1) t (.iface s v) .nilIface).run P w=.ok false w:=by
  simp [Op.equalIn,run_underlying hu]
theorem run_eqi1 {ms:Array (String×TypeId)}(hu:P.underlying t=some (.interface ms))(s:TypeId)(v:Value)(w:World):(Op.equal t (.iface s v) .nilIface).run P w=.ok false w:=run_eqi2 hu s v w 9999
theorem nil_iface {ms:Array (String×TypeId)}{neg:Bool}(hu:P.underlying t=some (.interface ms)){z:Value}{a:A}{c:A→R}(h:(oNil 6 7 7 neg a c).lf=some lf):∃ r,(c r).lf=some lf∧Bin P (nilOp neg) t x (.const z) a (.ref 6 0 0 0) r:=by
  obtain⟨g,b,o,n,rfl,i⟩:=nilP _ _ _ neg h
  clear h
  rcases i with ⟨rfl,h⟩|⟨h1,h2,h3,h⟩
  · refine⟨_,h,fun α u v hu' hv=>?_⟩
    cases hv with |ref hv=>cases hv with
    |sl _ hg=>omega
    |nif=>cases hu' with |ref hu'=>cases hu' with
      |sl _ hg=>omega
      |nif=>exact⟨_,bin_eq (fun w=>by unfold eqGuard;cases neg<;>simp [nilOp]) (by cases neg<;>rfl) (fun w=>run_eqi hu w),rep_b (by cases neg<;>rfl)⟩
  · refine⟨_,h,fun α u v hu' hv=>?_⟩
    cases hv with |ref hv=>cases hv with
    |sl _ hg=>omega
    |nif=>cases hu' with |ref hu'=>cases hu' with
      |err=>exact⟨_,bin_eq (guard_ne (by simp) (by simp)) (by cases neg<;>rfl) (fun w=>run_eqi1 hu _ _ w),rep_b (by cases neg<;>rfl)⟩
      |_=>omega
theorem binF_sound {T:List TI}(hT:TabOK P T){op:BinOp}{a b:A}{c:A→R}(hy:∀ z,y=.const z→b=cvA z)(h:(binF T op t x y a b c).lf=some lf):∃ r,(c r).lf=some lf∧Bin P op t x y a b r:=by
  unfold binF at h
  replace h:=tid_lf h
  split at h
  · split at h
    · exact s_add h
    · exact s_sub h
    · exact s_mul h
    · exact s_quo h
    · exact s_rem h
    · obtain⟨r,h1,h2,_⟩:=s_lt (P:=P) (t:=t) (x:=x) (y:=y) h;exact⟨r,h1,h2⟩
    · obtain⟨r,h1,h2,_⟩:=s_le (P:=P) (t:=t) (x:=x) (y:=y) h;exact⟨r,h1,h2⟩
    · obtain⟨r,h1,_,h2⟩:=s_lt (P:=P) (t:=t) (x:=x) (y:=y) h;exact⟨r,h1,h2⟩
    · obtain⟨r,h1,_,h2⟩:=s_le (P:=P) (t:=t) (x:=x) (y:=y) h;exact⟨r,h1,h2⟩
    · exact s_eq h
    · exact s_ne h
    · cases h
  · split at h
    · exact t_add h
    · exact t_sub h
    · obtain⟨r,h1,h2,_⟩:=t_lt (P:=P) (t:=t) (x:=x) (y:=y) h;exact⟨r,h1,h2⟩
    · obtain⟨r,h1,h2,_⟩:=t_le (P:=P) (t:=t) (x:=x) (y:=y) h;exact⟨r,h1,h2⟩
    · obtain⟨r,h1,_,h2⟩:=t_lt (P:=P) (t:=t) (x:=x) (y:=y) h;exact⟨r,h1,h2⟩
    · obtain⟨r,h1,_,h2⟩:=t_le (P:=P) (t:=t) (x:=x) (y:=y) h;exact⟨r,h1,h2⟩
    · exact t_eq h
    · exact t_ne h
    · cases h
  · split at h
    · exact s_cat h
    · exact s_eqS h
    · exact s_neS h
    · cases h
  · rename_i hk
    have hu:=und_bool (hT.und hk (by simp))
    split at h
    · exact s_eqB hu h
    · exact s_neB hu h
    · cases h
  · have nilc:∀(neg:Bool) (v:Value),b=cvA v→y=.const v→(binF.nilF (tget? T t).kind v neg a c).lf=some lf→∃ r,(c r).lf=some lf∧Bin P (nilOp neg) t x y a b r:=by
      intro neg v hb hy2 h
      unfold binF.nilF at h
      replace h:=tid_lf h
      split at h
      · rename_i hk
        subst hb
        exact nil_slice (und_slice (hT.und hk (by simp))) h
      · rename_i hk
        subst hb
        exact nil_ptr (und_ptr (hT.und hk (by simp))) h
      · rename_i hk
        subst hb
        exact nil_map (und_map (hT.und hk (by simp))) h
      · rename_i hk
        subst hb;rw [hy2]
        obtain⟨ms,hu⟩:=und_iface (hT.und hk (by simp))
        exact nil_iface hu h
      · cases h
    split at h
    · rename_i v
      exact nilc false v (hy v rfl) rfl h
    · rename_i v
      exact nilc true v (hy v rfl) rfl h
    · cases h
end
end Go.X1

set_option maxRecDepth 100000
namespace Go.X1
variable [Nu]
def Al.set (α:Al)(b:Nat)(L:Loc):Al:=fun x=>if x=b then some L else α x
theorem Al.set_same (α:Al)(b:Nat)(L:Loc):α.set b L b=some L:=by simp [Al.set]
theorem Al.set_ne (α:Al){b x:Nat}(L:Loc)(h:x≠b):α.set b L x=α x:=by simp [Al.set,h]
theorem Al.le_set {α:Al}{b:Nat}(L:Loc)(h:α b=none):Le α (α.set b L):=fun x L' e=>by
  have:x≠b:=fun e2=>by subst e2;rw [h]at e;cases e
  rw [α.set_ne L this];exact e
noncomputable def H.put:H→Nat→B→H|.mk t n r,b,v=>.mk (tset v t b) n r
noncomputable def H.new:H→B→H|.mk t n r,v=>.mk (tset v t n) (n+1) r
section
variable {P:Program} {W0:World} {α:Al} {w:World} {h:H}
theorem HR.free (hr:HR W0 α w h):α h.nx=none:=by
  cases e:α h.nx with
  |none=>rfl
  |some L=>exact absurd (hr.dom _ L e).1 (Nat.lt_irrefl _)
theorem new_get (hr:HR W0 α w h)(v:B)(b:Nat):tget .no (h.new v).tr b=if b=h.nx then v else tget .no h.tr b:=by
  cases h with |mk t n r=>exact(full_set v t n n hr.full (Nat.le_refl _)).2 .no b
theorem put_get (hr:HR W0 α w h)(v:B){k:Nat}(hk:k<h.nx)(b:Nat):tget .no (h.put k v).tr b=if b=k then v else tget .no h.tr b:=by
  cases h with |mk t n r=>exact(full_set v t n k hr.full (Nat.le_of_lt hk)).2 .no b
theorem agree_alloc (w:World)(o:Obj):Agree w (w.alloc o):=
  ⟨by show w.heap.size≤(w.heap.push o).size;rw [Array.size_push];omega,fun b hb=>by simp only [World.alloc,Array.getElem?_push];rw [if_neg (by omega)],rfl,rfl⟩
theorem alloc_heap (w:World)(o:Obj):(w.alloc o).heap[w.heap.size]? =some o:=by show(w.heap.push o)[w.heap.size]? =some o;rw [Array.getElem?_push,if_pos rfl]
theorem alloc_size (w:World)(o:Obj):(w.alloc o).heap.size=w.heap.size+1:=Array.size_push ..
theorem step_new (hr:HR W0 α w h)(o:Obj)(v:B)(L:Loc)(hL:L.At w.heap.size)
    (hb:∀ α' w',Le α α'→w'.heap[w.heap.size]? =some o→BR α' w' L v):Step W0 α w h (α.set h.nx L) (w.alloc o) (h.new v):=by
  obtain⟨hL,hLz⟩:=hL
  have hle:=Al.le_set L hr.free
  have hro:=hr.ro
  have hnx:(h.new v).nx=h.nx+1:=by cases h;rfl
  have hag:=agree_alloc w o
  have hblk:∀ b L',α b=some L'→BR (α.set h.nx L) (w.alloc o) L' (tget .no h.tr b):=fun b L' e=>
    ((hr.blk b L' e).world (hag.heap _ (hr.dom b L' e).2.2)).mono hle
  refine⟨⟨hr.agr.trans hag,by cases h;exact Nat.le_succ_of_le hro,?_,fun b L' e=>?_,fun b L' e=>?_,fun b b' L1 L2 e1 e2 g1 g2 eb=>?_⟩,⟨hle,fun b L' e=>?_⟩,⟨hag.size,fun k hk _=>hag.heap k hk,hag.os,hag.out⟩,?_,fun b hb' _=>by rw [new_get hr,if_neg (by omega)]⟩
  · cases h with |mk t n r=>
    have:=(full_set v t n n hr.full (Nat.le_refl _)).1
    rwa [Nat.max_eq_right (by omega)]at this
  · rw [hnx,alloc_size]
    by_cases hb':b=h.nx
    · subst hb'
      rw [Al.set_same]at e
      cases e
      exact⟨by omega,.inl ⟨by rw [hL];exact hr.agr.size,hLz⟩,by omega⟩
    · rw [α.set_ne L hb']at e
      obtain⟨q1,q2,q3⟩:=hr.dom b L' e
      exact⟨by omega,q2.imp id fun e=>by cases h;exact e,by omega⟩
  · rw [new_get hr]
    by_cases hb':b=h.nx
    · subst hb'
      rw [Al.set_same]at e
      cases e
      rw [if_pos rfl]
      exact hb _ _ hle (alloc_heap w o)
    · rw [α.set_ne L hb']at e
      rw [if_neg hb']
      exact hblk b L' e
  · rw [new_get hr]at g1 g2
    by_cases h1:b=h.nx<;>by_cases h2:b'=h.nx
    · rw [h1,h2]
    · subst h1
      rw [Al.set_same]at e1
      cases e1
      rw [α.set_ne L h2]at e2
      have:=(hr.dom _ _ e2).2.2
      omega
    · subst h2
      rw [Al.set_same]at e2
      cases e2
      rw [α.set_ne L h1]at e1
      have:=(hr.dom _ _ e1).2.2
      omega
    · rw [α.set_ne L h1]at e1
      rw [α.set_ne L h2]at e2
      rw [if_neg h1]at g1
      rw [if_neg h2]at g2
      exact hr.dis b b' L1 L2 e1 e2 g1 g2 eb
  · by_cases hb':b=h.nx
    · subst hb'
      rw [Al.set_same]at e
      cases e
      exact .inr ⟨hr.free,Nat.le_refl _,.inl (by omega)⟩
    · rw [α.set_ne L hb']at e
      exact .inl e
  · refine⟨by cases h;rfl,by omega,fun b hb'=>?_⟩
    rw [new_get hr,if_neg (by omega)]
theorem step_put (hr:HR W0 α w h){k:Nat}{L:Loc}(hk:α k=some L)(hro:h.ro≤k)(v:B)(w':World)(hsz:w'.heap.size=w.heap.size)(hos:w'.os=w.os)(hout:w'.output=w.output)
    (hw:∀ c,c≠L.blk→w'.heap[c]? =w.heap[c]?) (hal:tget .no h.tr k≠ .no) (hb:BR α w' L v):Step W0 α w h α w' (h.put k v):=by
  obtain⟨d1,d2,d3⟩:=hr.dom k L hk
  replace d2:=d2.resolve_right (Nat.not_lt.2 hro)
  have d2':=d2.1
  have hnx:(h.put k v).nx=h.nx:=by cases h;rfl
  refine⟨⟨⟨by rw [hsz];exact hr.agr.size,fun b hb'=>by rw [hw b (by omega)];exact hr.agr.heap b hb',hos.trans hr.agr.os,hout.trans hr.agr.out⟩,by have:=hr.ro;cases h;exact this,?_,fun b L' e=>?_,fun b L' e=>?_,fun b b' L1 L2 e1 e2 g1 g2 eb=>?_⟩,.refl _ _ _,⟨by omega,fun c _ hn=>hw c (fun e=>hn k L hk e.symm),hos,hout⟩,?_,fun b _ e=>by rw [put_get hr v d1,if_neg (fun q=>by subst q;rw [hk]at e;cases e)]⟩
  · cases h with |mk t n r=>
    have:=(full_set v t n k hr.full (Nat.le_of_lt d1)).1
    have d1:k<n:=d1
    rwa [Nat.max_eq_left (by omega)]at this
  · rw [hnx,hsz]
    obtain⟨q1,q2,q3⟩:=hr.dom b L' e
    refine⟨q1,?_,q3⟩
    by_cases hb':b=k
    · subst hb'
      rw [hk]at e
      cases e
      exact .inl d2
    · exact q2.imp id fun e=>by cases h;exact e
  · rw [put_get hr v d1]
    by_cases hb':b=k
    · subst hb'
      rw [hk]at e
      cases e
      rw [if_pos rfl]
      exact hb
    · rw [if_neg hb']
      cases hn:tget B.no h.tr b with
      |no=>trivial
      |_=>
        rw [← hn]
        refine(hr.blk b L' e).world (hw _ fun eb=>hb' ?_)
        exact hr.dis b k L' L e hk (by rw [hn];simp) hal eb
  · rw [put_get hr v d1]at g1 g2
    by_cases h1:b=k<;>by_cases h2:b'=k
    · rw [h1,h2]
    · subst h1
      rw [if_neg h2]at g2
      exact hr.dis b b' L1 L2 e1 e2 hal g2 eb
    · subst h2
      rw [if_neg h1]at g1
      exact hr.dis b b' L1 L2 e1 e2 g1 hal eb
    · rw [if_neg h1]at g1
      rw [if_neg h2]at g2
      exact hr.dis b b' L1 L2 e1 e2 g1 g2 eb
  · refine⟨by cases h;rfl,by omega,fun b hb'=>?_⟩
    rw [put_get hr v d1,if_neg (by omega)]
end
end Go.X1

set_option maxRecDepth 100000
namespace Go.X1
variable [Nu]
section
variable {P:Program} {T:List TI} {t:Nat}
theorem TabOK.size (hT:TabOK P T)(hz:nz T t=true)(w:World):(sizeOf t).run P w=.ok (tget? T t).size w:=by
  obtain⟨i,_,h2,h3,⟨j,hj⟩,_⟩:=hT.info hz
  rw [h2,h3]
  simp [sizeOf,typeInfo,hj,tiOf,Program.cellsOf]
theorem TabOK.isAgg (hT:TabOK P T)(hz:nz T t=true)(w:World):(isAgg t).run P w=.ok (tget? T t).agg w:=by
  obtain⟨i,_,h2,h3,_,h4⟩:=hT.info hz
  obtain⟨d,hd⟩:=Option.isSome_iff_exists.1 h4
  rw [h2,h3]
  simp only [Go.isAgg,tiOf,aggOf,Sem.run_bind,run_underlying hd,Result.andThen_ok,hd]
  split<;>simp_all
theorem TabOK.zero (hT:TabOK P T)(hz:(tget? T t).zero≠ []):∃ z,(∀ w,(zeroValue t).run P w=.ok z w)∧z.cells.toList.map cvA=(tget? T t).zero:=by
  unfold tget? at hz ⊢
  cases ht:T[t]? with
  |none=>rw [ht]at hz;exact absurd rfl hz
  |some i=>
    rw [ht]at hz
    simp only [Option.getD_some]at hz ⊢
    obtain⟨h1,h2,_⟩:=hT t i ht
    obtain⟨j,hj⟩:=Option.isSome_iff_exists.1 h2
    subst h1
    simp only [tiOf,zeroOf,hj,Option.bind_some]at hz ⊢
    cases hzz:j.zero with
    |none=>simp [hzz]at hz
    |some z=>exact⟨z,fun w=>by simp [zeroValue,typeInfo,hj,hzz],by simp⟩
end
theorem oneV_eq (v:Value):oneV v=v.oneCell':=by cases v<;>rfl
theorem rep_iA (α:Al)(k:IntKind)(n:Int):Rep α (.int k n) (iA k n):=by
  unfold iA
  split
  · split
    · rename_i m hm;exact .int (by rw [hm];rfl)
    · exact .unk _
  · split
    · rename_i m
      cases hb:Nat.blt m 256
      · exact .unk _
      · exact .byt rfl (blt hb)
    · exact .unk _
  · exact .unk _
mutual
theorem rep_cv (α:Al):∀ v:Value,Rep α v (cvA v)
  |.int k n=>rep_iA α k n
  |.bool b=>.bool b
  |.string s=>.str rfl rfl
  |.slice a l c=>by
    cases a with
    |some a=>exact .unk _
    |none=>cases l with
      |succ l=>exact .unk _
      |zero=>cases c with
        |succ c=>exact .unk _
        |zero=>exact .ref .nsl
  |.pointer a=>by cases a with
    |none=>exact .ref .nptr
    |some a=>exact .unk _
  |.map a=>by cases a with
    |none=>exact .ref .nmap
    |some a=>exact .unk _
  |.nilIface=>.ref .nif
  |.nilFunc=>.ref .nfn
  |.agg ⟨vs⟩=>by
    unfold cvA
    cases hb:vs.all oneV
    · exact .unk _
    · exact .agg (repL_cv α vs) fun v hv=>by rw [← oneV_eq];exact List.all_eq_true.1 hb v hv
  |.tuple ⟨vs⟩=>.tup (repL_cv α vs)
  |.float _ _=>.unk _
  |.complex _ _ _=>.unk _
  |.chan _=>.unk _
  |.iface _ _=>.unk _
  |.func f ⟨a⟩ ⟨b⟩=>by
    cases f with
    |func g=>cases a with
      |nil=>exact .fn rfl (repL_cv α b)
      |cons _ _=>exact .unk _
    |_=>exact .unk _
theorem repL_cv (α:Al):∀ vs:List Value,RepL α vs (cvL vs)
  | []=>.nil
  |v::vs=>.cons (rep_cv α v) (repL_cv α vs)
end
section
variable {P:Program} {TT:List TI} {W0:World} {α:Al} {w:World} {h:H} {lf:Nat×A×H}
theorem addr_add (b o n:Nat):(⟨b,o,none⟩:Addr).add n=⟨b,o+n,none⟩:=by
  unfold Addr.add;split<;>simp_all
theorem cell_of {b o:Nat}{cs:Array Value}{el:TypeId}{fz:Nat×Nat}{v:Value}(hg:w.heap[b]? =some (.cells cs el fz))(hv:cs[o]? =some v):w.cell? ⟨b,o,none⟩=some v:=by
  simp [World.cell?,hg,hv]
theorem HR.cells (hr:HR W0 α w h){b:Nat}{L:Loc}(hb:α b=some L){n lo:Nat}{t:T A}(ht:tget .no h.tr b=.cs n lo t):
    lo=L.lo∧lo≤n∧n≤lo+L.cap∧(∃ m,Full t m∧n≤m)∧∃ cs el,w.heap[L.blk]? =some (.cells cs el L.fz)∧L.base+L.cap≤cs.size∧∀ i,lo≤i→i<n→∃ v,cs[L.base+(i-lo)]? =some v∧v.oneCell'=true∧Rep α v (tget junk t i):=by
  have:=hr.blk b L hb
  rwa [ht]at this
theorem rep_ptr {v:Value}{b o n:Nat}(h:Rep α v (.ref 1 b o n)):∃ L,α b=some L∧L.lo≤o∧v=.pointer (some ⟨L.blk,L.base+(o-L.lo),none⟩):=by
  cases h with |ref h=>cases h with
  |ptr h ho=>exact⟨_,h,ho,rfl⟩
  |sl _ hg=>omega
theorem ld_sound (hT:TabOK P TT){t:Nat}(hz:nz TT t=true)(ha:(tget? TT t).agg=false){p:A}{c:A→R}(hl:(oLd p h c).lf=some lf):
    ∃ x,(c x).lf=some lf∧∀(h2:H),Mono h h2→∀(W0:World) (α:Al) (w:World) (v:Value),HR W0 α w h2→Rep α v p→∃ u,(Instr.loadAt t v).run P w=.ok u w∧u.oneCell'=true∧Rep α u x:=by
  obtain⟨b,o,n,rfl,hl⟩:=oPt_lf hl
  obtain⟨m,lo,tr,hb,hl⟩:=oBlk_lf hl
  obtain⟨h1,hl⟩:=oCk_lf hl
  obtain⟨h2,hl⟩:=oCk_lf hl
  refine⟨_,hl,fun h3 hm W0 α w v hr hv=>?_⟩
  replace hb:=(hm.tr b (by rw [hb];simp)).trans hb
  obtain⟨L,g1,g2,rfl⟩:=rep_ptr hv
  obtain⟨e1,e2,e3,_,cs,el,e4,e5,e6⟩:=hr.cells g1 hb
  obtain⟨u,q1,q2,q3⟩:=e6 o (ble h1) (blt h2)
  refine⟨u,?_,q2,q3⟩
  have hc:=cell_of e4 q1
  rw [e1]at hc
  simp [Instr.loadAt,Instr.sureAddr,loadVar,hT.isAgg hz,ha,hc]
end
end Go.X1

set_option maxRecDepth 100000
namespace Go.X1
variable [Nu]
section
variable {P:Program} {TT:List TI} {h:H} {lf:Nat×A×H}
theorem HR.vals {W0:World}{α:Al}{w:World}(hr:HR W0 α w h){b:Nat}{L:Loc}(hb:α b=some L){n lo:Nat}{t:T A}(ht:tget .no h.tr b=.cs n lo t){o m:Nat}(h1:lo≤o)(h2:o+m≤n):
    ∃ vs:List Value,vs.length=m∧(∀ j v,vs[j]? =some v→w.cell? ⟨L.blk,L.base+(o-L.lo)+j,none⟩=some v)∧(∀ v∈vs,v.oneCell'=true)∧RepL α vs (tgets t m o):=by
  obtain⟨e1,e2,e3,_,cs,el,e4,e5,e6⟩:=hr.cells hb ht
  clear ht
  induction m generalizing o with
  |zero=>exact⟨[],rfl,fun j v hj=>by simp at hj,fun v hv=>by simp at hv,.nil⟩
  |succ m ih=>
    obtain⟨u,q1,q2,q3⟩:=e6 o h1 (by omega)
    obtain⟨vs,g1,g2,g3,g4⟩:=ih (o:=o+1) (by omega) (by omega)
    refine⟨u::vs,by rw [List.length_cons,g1],fun j v hj=>?_,fun v hv=>?_,.cons q3 g4⟩
    · cases j with
      |zero=>
        simp only [List.getElem?_cons_zero,Option.some.injEq]at hj
        subst hj
        rw [e1]at q1
        exact cell_of e4 q1
      |succ j=>
        have:=g2 j v (by simpa using hj)
        rw [show L.base+(o-L.lo)+(j+1)=L.base+(o+1-L.lo)+j by omega]
        exact this
    · rcases List.mem_cons.1 hv with rfl|hv
      · exact q2
      · exact g3 v hv
theorem ldN_sound (hT:TabOK P TT){t:Nat}(hz:nz TT t=true)(ha:(tget? TT t).agg=true){p:A}{c:A→R}(hl:(oLdN (tget? TT t).size p h c).lf=some lf):
    ∃ x,(c x).lf=some lf∧∀(h2:H),Mono h h2→∀(W0:World) (α:Al) (w:World) (v:Value),HR W0 α w h2→Rep α v p→∃ u,(Instr.loadAt t v).run P w=.ok u w∧Rep α u x:=by
  obtain⟨b,o,n,rfl,hl⟩:=oPt_lf hl
  obtain⟨m,lo,tr,hb,hl⟩:=oBlk_lf hl
  obtain⟨h1,hl⟩:=oCk_lf hl
  obtain⟨h2,hl⟩:=oCk_lf hl
  refine⟨_,hl,fun h3 hm W0 α w v hr hv=>?_⟩
  replace hb:=(hm.tr b (by rw [hb];simp)).trans hb
  obtain⟨L,g1,g2,rfl⟩:=rep_ptr hv
  obtain⟨vs,q1,q2,q3,q4⟩:=hr.vals g1 hb (ble h1) (ble h2)
  refine⟨.agg ⟨vs⟩,?_,.agg q4 q3⟩
  have hc:=run_loadCells_list (P:=P) w ⟨L.blk,L.base+(o-L.lo),none⟩ vs (fun j v hj=>by rw [addr_add];exact q2 j v hj)
  rw [q1]at hc
  simp [Instr.loadAt,Instr.sureAddr,loadVar,hT.isAgg hz,ha,hT.size hz,hc]
theorem run_storeCells_fz (g o:Nat)(t:TypeId):∀(vs:List Value) (i:Nat) (cur:Array Value) (w:World),w.heap[g]? =some (.cells cur t (0,0))→o+i+vs.length≤cur.size→(∀ v∈vs,v.oneCell'=true)→
    (storeCells ⟨g,o,none⟩ vs i).run P w=.ok () (w.setRow g (cur.toList.take (o+i)++vs++cur.toList.drop (o+i+vs.length)).toArray)
  | [],i,cur,w,hg,_,_=>by
    simp only [storeCells,List.append_nil,List.length_nil,Nat.add_zero,List.take_append_drop,Array.toArray_toList]
    rw [setRow_self w g cur t (0,0) hg]
    rfl
  |v::rest,i,cur,w,hg,hl,h1=>by
    have hi:o+i<cur.size:=by simp at hl;omega
    have hadd:(⟨g,o,none⟩:Addr).add i=⟨g,o+i,none⟩:=addr_add _ _ _
    have hcell:w.cell? ⟨g,o+i,none⟩=some cur[o+i]:=by simp [World.cell?,hg,hi]
    have hfro:w.frozen? ⟨g,o+i,none⟩=false:=by
      simp [World.frozen?,hg]
    have hst:(store ((⟨g,o,none⟩:Addr).add i) v).run P w=.ok () (w.setRow g (cur.setIfInBounds (o+i) v)):=by
      rw [hadd,run_store P w _ v _ (h1 v (by simp)),hcell]
      simp [hfro,setCell_eq_setRow w g (o+i) cur t (0,0) v hg]
    have ih:=run_storeCells_fz g o t rest (i+1) (cur.setIfInBounds (o+i) v) (w.setRow g (cur.setIfInBounds (o+i) v)) (setRow_heap w g cur _ t _ hg) (by simp at hl ⊢;omega) (fun x hx=>h1 x (by simp [hx]))
    simp only [storeCells,Sem.run_bind,hst,Result.andThen_ok,ih,setRow_setRow]
    congr 3
    have e:=list_seg_step cur.toList (o+i) v rest (by simp at hl ⊢;omega)
    simpa [Array.toList_setIfInBounds,Nat.add_assoc]using e
theorem splice_get {α:Type}(l vs:List α)(o:Nat)(h:o+vs.length≤l.length)(j:Nat):
    (l.take o++vs++l.drop (o+vs.length))[j]? =if o≤j∧j<o+vs.length then vs[j-o]? else l[j]? :=by
  have hto:(l.take o).length=o:=by simp;omega
  rcases Nat.lt_or_ge j o with h1|h1
  · rw [if_neg (by omega),List.append_assoc,List.getElem?_append_left (by omega),List.getElem?_take,if_pos h1]
  · rcases Nat.lt_or_ge j (o+vs.length)with h2|h2
    · rw [if_pos ⟨h1,h2⟩,List.getElem?_append_left (by rw [List.length_append,hto];exact h2),List.getElem?_append_right (by omega),hto]
    · rw [if_neg (by omega),List.getElem?_append_right (by rw [List.length_append,hto];exact h2),List.length_append,hto,List.getElem?_drop]
      congr 1;omega
theorem setRow_other (w:World)(g c:Nat)(cs:Array Value)(h:c≠g):(w.setRow g cs).heap[c]? =w.heap[c]? :=by
  unfold World.setRow
  simp [Array.getElem?_modify,Ne.symm h]
theorem setRow_size (w:World)(g:Nat)(cs:Array Value):(w.setRow g cs).heap.size=w.heap.size:=by
  simp [World.setRow]
end
end Go.X1

set_option maxRecDepth 100000
namespace Go.X1
variable [Nu]
section
variable {P:Program} {TT:List TI} {h:H} {lf:Nat×A×H}
theorem step_write {W0:World}{α:Al}{w:World}(hr:HR W0 α w h){k:Nat}{L:Loc}(hk:α k=some L){n lo:Nat}{t:T A}(ht:tget .no h.tr k=.cs n lo t)(hro:h.ro≤k)
    {o:Nat} {vs:List Value} {l:A} (hrep:RepL α vs l) (hone:∀ v∈vs,v.oneCell'=true) (h1:lo≤o) (h2:o+vs.length≤n):
    ∃ cs el,w.heap[L.blk]? =some (.cells cs el (0,0))∧L.base+(o-L.lo)+vs.length≤cs.size∧
      Step W0 α w h α (w.setRow L.blk (cs.toList.take (L.base+(o-L.lo))++vs++cs.toList.drop (L.base+(o-L.lo)+vs.length)).toArray) (h.put k (.cs n lo (tsets l t o))):=by
  obtain⟨e1,e2,e3,⟨m,hf,hm⟩,cs,el,e4,e5,e6⟩:=hr.cells hk ht
  have hz:L.fz=(0,0):=((hr.dom k L hk).2.1.resolve_right (Nat.not_lt.2 hro)).2
  rw [hz]at e4
  have hb:L.base+(o-L.lo)+vs.length≤cs.size:=by omega
  refine⟨cs,el,e4,hb,step_put hr hk hro _ _ (setRow_size _ _ _) rfl rfl (fun c hc=>setRow_other w _ c _ hc) (by rw [ht];simp) ?_⟩
  have hlen:vs.length=llen l:=hrep.len
  obtain⟨f1,f2⟩:=full_sets l t m o hrep.isL hf (by omega)
  refine⟨e1,e2,e3,⟨_,f1,by omega⟩,_,el,by rw [hz];exact setRow_heap w _ cs _ el _ e4,?_,fun i hi1 hi2=>?_⟩
  · have:(cs.toList.take (L.base+(o-L.lo))++vs++cs.toList.drop (L.base+(o-L.lo)+vs.length)).toArray.size=cs.size:=by
      simp;omega
    rw [this];exact e5
  · have hsp:=splice_get cs.toList vs (L.base+(o-L.lo)) (by simpa using hb) (L.base+(i-lo))
    have hsp':(cs.toList.take (L.base+(o-L.lo))++vs++cs.toList.drop (L.base+(o-L.lo)+vs.length)).toArray[L.base+(i-lo)]? =(cs.toList.take (L.base+(o-L.lo))++vs++cs.toList.drop (L.base+(o-L.lo)+vs.length))[L.base+(i-lo)]? :=by simp
    rw [hsp',hsp,f2 i]
    by_cases hi:o≤i∧i<o+llen l
    · rw [if_pos hi,if_pos (by omega)]
      have hlt:i-o<vs.length:=by omega
      refine⟨vs[i-o],?_,hone _ (List.getElem_mem hlt),hrep.get _ _ (List.getElem?_eq_getElem hlt)⟩
      rw [show L.base+(i-lo)-(L.base+(o-L.lo))=i-o by omega,List.getElem?_eq_getElem hlt]
    · rw [if_neg hi,if_neg (by omega)]
      obtain⟨u,q1,q2,q3⟩:=e6 i hi1 hi2
      exact⟨u,by simpa using q1,q2,q3⟩
theorem oOne_lf {x:A}{r:R}(hl:(oOne x r).lf=some lf):r.lf=some lf∧∀(α:Al) (v:Value),Rep α v x→v.oneCell'=true∧v.cells=#[v]:=by
  cases x with
  |int n=>exact⟨hl,fun α v hv=>by cases hv;exact⟨rfl,rfl⟩⟩
  |byt n=>exact⟨hl,fun α v hv=>by cases hv;exact⟨rfl,rfl⟩⟩
  |bool n=>exact⟨hl,fun α v hv=>by cases hv;exact⟨rfl,rfl⟩⟩
  |str n N=>exact⟨hl,fun α v hv=>by cases hv;exact⟨rfl,rfl⟩⟩
  |ref g b o n=>exact⟨hl,fun α v hv=>by cases hv with |ref hv=>cases hv<;>exact⟨rfl,rfl⟩⟩
  |nd g cs=>
    obtain⟨h1,h2⟩:=oCk_lf hl
    have h1:g=2∨100≤g:=by
      rcases hb:Nat.beq g 2 with _|_
      · have h1:(@Bool.rec (fun _=>Bool) (Nat.ble 100 g) true (Nat.beq g 2))=true:=h1
        rw [hb]at h1;exact .inr (ble h1)
      · exact .inl (beq hb)
    refine⟨h2,fun α v hv=>?_⟩
    cases hv with
    |agg=>omega
    |tup=>omega
    |fn=>exact⟨rfl,rfl⟩
    |pst=>exact⟨rfl,rfl⟩
  |nl=>cases (show (none:Option (Nat×A×H))=some lf from hl)
  |cn x r=>cases (show (none:Option (Nat×A×H))=some lf from hl)
theorem sz1_eq {t:Nat}(h1:sz1 TT t=true):(tget? TT t).size=1:=by
  unfold sz1 at h1;split at h1<;>simp_all
theorem ops_skip {W0:World}{o:Op}{ρ:Operand→A}{h':H}
    (hx:∀(d:Option Tmp) (ty:TypeId) (pos:String) (af:Array Edge) (gu:Option (Nat×Bool)) (α:Al) (w:World) (a:Act),HR W0 α w h→(∀ y∈o.operands,Rep α (a.eval y) (ρ y))→∃ w',(execOp a.eval ⟨d,o,ty,pos,af,gu⟩).run P w=.ok .skip w'∧Step W0 α w h α w' h'):OpS P W0 o ρ h und h':=by
  intro d ty pos af gu α w a hr hρ next Q hn
  obtain⟨w',h1,h2⟩:=hx d ty pos af gu α w a hr hρ
  unfold Oper.wp
  rw [h1,Oper.upon_skip]
  exact hn α w' undef h2 (.tup .nil)
theorem st_sound {W0:World}(hT:TabOK P TT){t:Nat}(hz:nz TT t=true)(h1:sz1 TT t=true){x y:Operand}{ρ:Operand→A}{c:H→R}(hl:(oSt (ρ x) (ρ y) h c).lf=some lf):
    ∃ h',(c h').lf=some lf∧OpS P W0 (.store t x y) ρ h und h':=by
  obtain⟨b,o,n,hx,hl⟩:=oPt_lf hl
  obtain⟨m,lo,tr,hb,hl⟩:=oBlk_lf hl
  obtain⟨g1,hl⟩:=oCk_lf hl
  obtain⟨g2,hl⟩:=oCk_lf hl
  obtain⟨hl,hone⟩:=oOne_lf hl
  obtain⟨hro,hl⟩:=hput_lf hl
  refine⟨h.put b (.cs m lo (tset (ρ y) tr o)),by cases h;exact hl,ops_skip fun d ty pos af gu α w a hr hρ=>?_⟩
  have hp:=hρ x (by simp [Op.operands])
  have hv:=hρ y (by simp [Op.operands])
  rw [hx]at hp
  obtain⟨L,e1,e2,e3⟩:=rep_ptr hp
  obtain⟨q1,q2⟩:=hone α _ hv
  obtain⟨cs,el,f1,f2,f3⟩:=step_write hr e1 hb hro (vs:=[a.eval y]) (l:=.cn (ρ y) .nl) (.cons hv .nil) (by simpa using q1) (ble g1) (by have:=blt g2;simp;omega)
  refine⟨_,?_,f3⟩
  have hrun:=run_storeCells_fz (P:=P) L.blk (L.base+(o-L.lo)) el [a.eval y] 0 cs w f1 (by simpa using f2) (by simpa using q1)
  simp only [Nat.add_zero]at hrun
  have hsz:=hT.size hz
  rw [sz1_eq h1]at hsz
  simp [execOp,e3,Instr.storeAt,Instr.sureAddr,storeVar,hsz,q2,hrun]
end
end Go.X1

set_option maxRecDepth 100000
namespace Go.X1
variable [Nu]
section
variable {P:Program} {TT:List TI} {h:H} {lf:Nat×A×H}
theorem rep_agg {α:Al}{v:Value}{l:A}(hv:Rep α v (.nd 0 l)):∃ vs,v=.agg ⟨vs⟩∧RepL α vs l∧∀ u∈vs,u.oneCell'=true:=by
  cases hv with
  |agg h1 h2=>exact⟨_,rfl,h1,h2⟩
  |fn hg=>omega
theorem stN_sound {W0:World}(hT:TabOK P TT){t:Nat}(hz:nz TT t=true){x y:Operand}{ρ:Operand→A}{c:H→R}(hl:(oStN (tget? TT t).size (ρ x) (ρ y) h c).lf=some lf):
    ∃ h',(c h').lf=some lf∧OpS P W0 (.store t x y) ρ h und h':=by
  obtain⟨b,o,n,hx,hl⟩:=oPt_lf hl
  obtain⟨m,lo,tr,hb,hl⟩:=oBlk_lf hl
  obtain⟨g,l,hy,hl⟩:=oNd_lf hl
  obtain⟨g0,hl⟩:=oCk_lf hl
  obtain⟨g1,hl⟩:=oCk_lf hl
  obtain⟨g2,hl⟩:=oCk_lf hl
  obtain⟨g3,hl⟩:=oCk_lf hl
  obtain⟨hro,hl⟩:=hput_lf hl
  have g0:g=0:=beq g0
  rw [g0]at hy
  have g1:llen l=(tget? TT t).size:=beq g1
  have g3:o+(tget? TT t).size≤m:=ble g3
  refine⟨h.put b (.cs m lo (tsets l tr o)),by cases h;exact hl,ops_skip fun d ty pos af gu α w a hr hρ=>?_⟩
  have hp:=hρ x (by simp [Op.operands])
  have hv:=hρ y (by simp [Op.operands])
  rw [hx]at hp
  rw [hy]at hv
  obtain⟨L,e1,e2,e3⟩:=rep_ptr hp
  obtain⟨vs,q0,q1,q2⟩:=rep_agg hv
  have q3:=q1.len
  obtain⟨cs,el,f1,f2,f3⟩:=step_write hr e1 hb hro q1 q2 (ble g2) (by omega)
  refine⟨_,?_,f3⟩
  have hrun:=run_storeCells_fz (P:=P) L.blk (L.base+(o-L.lo)) el vs 0 cs w f1 (by simpa using f2) q2
  simp only [Nat.add_zero]at hrun
  have hsz:=hT.size hz
  simp [execOp,e3,q0,Instr.storeAt,Instr.sureAddr,storeVar,hsz,Value.cells,q3,g1,hrun]
theorem br_cells {α:Al}{w:World}(vs:List Value)(el:TypeId)(sz:Nat)(cap:Nat){l:A}(hrep:RepL α vs l)(hone:∀ v∈vs,v.oneCell'=true)(hcap:vs.length=cap)(α':Al)(w':World)(hle:Le α α')(hw':w'.heap[w.heap.size]? =some (.cells ⟨vs⟩ el (0,0))):
    BR α' w' ⟨w.heap.size,0,0,sz,cap,(0,0)⟩ (.cs (llen l) 0 (tsets l .lf 0)):=by
  obtain⟨f1,f2⟩:=full_sets l .lf 0 0 hrep.isL rfl (Nat.le_refl _)
  have hlen:=hrep.len
  refine⟨rfl,Nat.zero_le _,by show llen l≤0+cap;omega,⟨_,f1,by omega⟩,⟨vs⟩,el,hw',by show 0+cap≤vs.length;omega,fun i _ hi=>?_⟩
  have hlt:i<vs.length:=by omega
  refine⟨vs[i],?_,hone _ (List.getElem_mem hlt),?_⟩
  · show(⟨vs⟩:Array Value)[0+(i-0)]? =_
    simp [hlt]
  · rw [f2 i,if_pos ⟨by omega,by omega⟩]
    exact(hrep.get _ _ (List.getElem?_eq_getElem hlt)).mono hle
theorem step_cells {W0:World}{α:Al}{w:World}(hr:HR W0 α w h)(vs:List Value)(el:TypeId)(sz:Nat)(cap:Nat){l:A}(hrep:RepL α vs l)(hone:∀ v∈vs,v.oneCell'=true)(hcap:vs.length=cap):
    Step W0 α w h (α.set h.nx ⟨w.heap.size,0,0,sz,cap,(0,0)⟩) (w.alloc (.cells ⟨vs⟩ el (0,0))) (h.new (.cs (llen l) 0 (tsets l .lf 0))):=
  step_new hr _ _ _ ⟨rfl,rfl⟩ (br_cells vs el sz cap hrep hone hcap)
theorem ops_step {W0:World}{o:Op}{ρ:Operand→A}{x:A}{h':H}
    (hx:∀(d:Option Tmp) (ty:TypeId) (pos:String) (af:Array Edge) (gu:Option (Nat×Bool)) (α:Al) (w:World) (a:Act),HR W0 α w h→(∀ y∈o.operands,Rep α (a.eval y) (ρ y))→∃ v α' w',(execOp a.eval ⟨d,o,ty,pos,af,gu⟩).run P w=.ok (.value v) w'∧Step W0 α w h α' w' h'∧Rep α' v x):OpS P W0 o ρ h x h':=by
  intro d ty pos af gu α w a hr hρ next Q hn
  obtain⟨v,α',w',h1,h2,h3⟩:=hx d ty pos af gu α w a hr hρ
  unfold Oper.wp
  rw [h1,Oper.upon_value]
  exact hn α' w' v h2 h3
theorem oNew_lf {l:A}{c:A→H→R}(hl:(oNew l h c).lf=some lf):(c (.ref 1 h.nx 0 0) (h.new (.cs (llen l) 0 (tsets l .lf 0)))).lf=some lf:=by
  have:=hnew_lf hl
  cases h;exact this
theorem OpN.ops {W0:World}{o:Op}{ρ:Operand→A}{x:Nat→A}{B0:B}(hv:OpN P W0 o ρ x B0)(h:H):OpS P W0 o ρ h (x h.nx) (h.new B0):=
  ops_step fun d ty pos af gu α w a hr hρ=>by
    obtain⟨v,ob,L,h1,h2,h3,h4⟩:=hv d ty pos af gu α w a h hr hρ
    exact⟨v,_,_,h1,step_new hr ob B0 L h2 h3,h4 _ _ (α.set_same _ _)⟩
theorem rep_new {α:Al}{w:World}{sz cap n:Nat}(h:α n=some ⟨w.heap.size,0,0,sz,cap,(0,0)⟩):Rep α (.pointer (some ⟨w.heap.size,0,none⟩)) (.ref 1 n 0 0):=
  .ref (RefR.ptr (L:=⟨w.heap.size,0,0,sz,cap,(0,0)⟩) (o:=0) h (Nat.zero_le _))
theorem box_sound {W0:World}{t:Nat}{x:Operand}{ρ:Operand→A}{c:A→H→R}(hl:(oNewV (ρ x) h c).lf=some lf):∃ r B0,(c (r h.nx) (h.new B0)).lf=some lf∧OpN P W0 (.box t x) ρ r B0:=by
  obtain⟨g,l,hy,hl⟩:=oNd_lf hl
  obtain⟨g0,hl⟩:=oCk_lf hl
  have g0:g=0:=beq g0
  rw [g0]at hy
  refine⟨fun n=>.ref 1 n 0 0,_,oNew_lf hl,fun d ty pos af gu α w a h hr hρ=>?_⟩
  have hv:=hρ x (by simp [Op.operands])
  rw [hy]at hv
  obtain⟨vs,q0,q1,q2⟩:=rep_agg hv
  exact⟨_,_,_,by simp only [execOp,q0,Instr.box,newVar,newRow,Value.cells];rfl,⟨rfl,rfl⟩,br_cells vs t 1 _ q1 q2 rfl,fun α' id e=>rep_new e⟩
theorem box1_sound {W0:World}{t:Nat}{x:Operand}{ρ:Operand→A}{c:A→H→R}(hl:(oOne (ρ x) (oNew (.cn (ρ x) .nl) h c)).lf=some lf):∃ r B0,(c (r h.nx) (h.new B0)).lf=some lf∧OpN P W0 (.box t x) ρ r B0:=by
  obtain⟨hl,hone⟩:=oOne_lf hl
  refine⟨fun n=>.ref 1 n 0 0,_,oNew_lf hl,fun d ty pos af gu α w a h hr hρ=>?_⟩
  have hv:=hρ x (by simp [Op.operands])
  obtain⟨q1,q2⟩:=hone α _ hv
  exact⟨_,_,_,by simp only [execOp,Instr.box,newVar,newRow,q2];rfl,⟨rfl,rfl⟩,br_cells [a.eval x] t 1 _ (.cons hv .nil) (by simpa using q1) rfl,fun α' id e=>rep_new e⟩
end
end Go.X1

set_option maxRecDepth 100000
namespace Go.X1
variable [Nu]
section
variable {P:Program} {TT:List TI} {h:H} {lf:Nat×A×H} {W0:World} {ρ:Operand→A}
theorem oneA_one {α:Al}{v:Value}{x:A}(hv:Rep α v x)(hx:oneA x=true):v.oneCell'=true:=by
  cases hv with
  |int _=>rfl
  |byt _ _=>rfl
  |bool _=>rfl
  |str _ _=>rfl
  |ref hr=>cases hr<;>rfl
  |agg _ _=>exact absurd (ble hx) (by omega)
  |tup _=>exact absurd (ble hx) (by omega)
  |fn _ _=>rfl
  |pst _=>rfl
  |unk _=>cases hx
theorem repL_lA {α:Al}:∀ vs:List Value,RepL α vs (lA (vs.map cvA))
  | []=>.nil
  |v::vs=>.cons (rep_cv α v) (repL_lA vs)
theorem alloc_sound (hT:TabOK P TT){t:Nat}{c:A→H→R}(hz:nz TT t=true)(h1:(tget? TT t).zero.all oneA=true)(h2:(tget? TT t).zero≠ [])(hl:(oNew (lA (tget? TT t).zero) h c).lf=some lf):
    ∃ r B0,(c (r h.nx) (h.new B0)).lf=some lf∧OpN P W0 (.alloc t) ρ r B0:=by
  refine⟨fun n=>.ref 1 n 0 0,_,oNew_lf hl,fun d ty pos af gu α w a h hr hρ=>?_⟩
  obtain⟨z,q1,q2⟩:=hT.zero h2
  rw [← q2]at h1 ⊢
  refine⟨_,_,_,by simp only [execOp,Instr.alloc,Sem.run_bind,q1,Result.andThen_ok];rfl,⟨rfl,rfl⟩,br_cells z.cells.toList t 1 _ (repL_lA _) (fun v hv=>?_) rfl,fun α' id e=>rep_new e⟩
  exact oneA_one (rep_cv α v) (List.all_eq_true.1 h1 _ (List.mem_map_of_mem hv))
theorem fieldOf_spec (hT:TabOK P TT){t k o ft:Nat}(hf:fieldOf TT t k=some (o,ft)):∃ fields f,P.underlying t=some (.struct fields)∧fields[k]? =some f∧f.offset=o∧f.type=ft:=by
  unfold fieldOf at hf
  split at hf
  · rename_i fs hk
    obtain⟨fields,h1,h2⟩:=und_struct (hT.und hk (by simp))
    rw [← h2,List.getElem?_map]at hf
    cases hg:fields.toList[k]? with
    |none=>simp [hg]at hf
    |some f=>
      simp [hg]at hf
      exact⟨fields,f,h1,by simpa using hg,hf.1,hf.2⟩
  · cases hf
theorem fld_sound (hT:TabOK P TT){t k o ft:Nat}(hf:fieldOf TT t k=some (o,ft))(hz:nz TT ft=true){x:Operand}{c:A→R}(hl:(oFld o (ρ x) c).lf=some lf):
    ∃ r,(c r).lf=some lf∧OpV P W0 (.fieldAddr t x k) ρ r:=by
  obtain⟨b,i,n,hx,hl⟩:=oPt_lf hl
  refine⟨_,hl,fun d ty pos af gu α w a h hr hρ=>?_⟩
  have hp:=hρ x (by simp [Op.operands])
  rw [hx]at hp
  obtain⟨L,e1,e2,e3⟩:=rep_ptr hp
  obtain⟨fields,f,g1,g2,g3,g4⟩:=fieldOf_spec hT hf
  have hsz:(tget? TT ft).size≠0:=by intro e;unfold nz at hz;rw [e]at hz;cases hz
  refine⟨.pointer (some ⟨L.blk,L.base+(i-L.lo)+o,none⟩),?_,?_⟩
  · subst g3;subst g4
    simp [execOp,e3,Instr.fieldAt,run_underlying g1,g2,Instr.sureAddr,fieldPlace,hT.size hz,hsz,addr_add]
  · have:L.base+(i-L.lo)+o=L.base+(Nat.add i o-L.lo):=by
      show _=L.base+(i+o-L.lo);omega
    rw [this]
    exact .ref (.ptr e1 (by show L.lo≤i+o;omega))
theorem deref_sound {x:Operand}{c:A→R}(hl:(oDeref (ρ x) c).lf=some lf):∃ r,(c r).lf=some lf∧OpV P W0 (.nilCheck x) ρ r:=by
  obtain⟨b,i,n,hx,hl⟩:=oPt_lf hl
  refine⟨_,hl,fun d ty pos af gu α w a h hr hρ=>?_⟩
  have hp:=hρ x (by simp [Op.operands])
  rw [hx]at hp
  obtain⟨L,e1,e2,e3⟩:=rep_ptr hp
  exact⟨_,by simp only [execOp,e3];rfl,.ref (.ptr e1 e2)⟩
theorem rep_int {α:Al}{v:Value}{n:Nat}(hv:Rep α v (.int n)):∃ m:Int,v=.int .i64 m∧m+9223372036854775808=n:=by
  cases hv with |int h=>exact⟨_,rfl,h⟩
theorem rep_sl {α:Al}{v:Value}{sz b o n:Nat}(hz:0<sz)(hv:Rep α v (.ref (10+sz) b o n)):∃ L ad c,α b=some L∧L.sz=sz∧L.lo≤o∧n≤c∧c * L.sz+(o-L.lo)=L.cap∧(c=0∨ad=⟨L.blk,L.base+(o-L.lo),none⟩)∧v=.slice (some ad) n c:=by
  cases hv with |ref hv=>
  generalize hg:10+sz=g at hv
  cases hv with
  |sl h hg' hz ho hn hc had=>exact⟨_,_,_,h,by omega,ho,hn,hc,had,rfl⟩
  |_=>omega
theorem rep_nsl {α:Al}{v:Value}{b o n:Nat}(hv:Rep α v (.ref 3 b o n)):v=.slice none 0 0:=by
  cases hv with |ref hv=>cases hv with
  |nsl=>rfl
  |sl _ hg=>omega
theorem elemOf_spec (hT:TabOK P TT){t e:Nat}(he:elemOf TT t=some e):P.underlying t=some (.slice e):=by
  unfold elemOf at he
  split at he
  · rename_i e' hk
    cases he
    exact und_slice (hT.und hk (by simp))
  · cases he
theorem elemZ_spec (hT:TabOK P TT){t e:Nat}(he:elemZ TT t=some e):P.underlying t=some (.slice e)∧nz TT e=true:=by
  unfold elemZ at he
  split at he
  · rename_i e' hk
    cases hz:nz TT e'
    · rw [hz]at he;cases he
    · rw [hz]at he
      cases he
      exact⟨elemOf_spec hT hk,hz⟩
  · cases he
theorem idx_sound (hT:TabOK P TT){t e:Nat}(he:elemZ TT t=some e){x y:Operand}{c:A→R}(hl:(oIdx (tget? TT e).size (ρ x) (ρ y) c).lf=some lf):∃ r,(c r).lf=some lf∧OpV P W0 (.indexAddr t x y) ρ r:=by
  obtain⟨he,hz⟩:=elemZ_spec hT he
  obtain⟨g,b,o,n,hx,hl⟩:=oRef_lf hl
  obtain⟨i,hy,hl⟩:=oInt_lf hl
  obtain⟨g1,hl⟩:=oCk_lf hl
  obtain⟨g2,hl⟩:=oCk_lf hl
  obtain⟨g3,hl⟩:=oCk_lf hl
  have g1:g=10+(tget? TT e).size:=beq g1
  have g2:9223372036854775808≤i:=ble g2
  have g3:i-9223372036854775808<n:=blt g3
  refine⟨_,hl,fun d ty pos af gu α w a h hr hρ=>?_⟩
  have hp:=hρ x (by simp [Op.operands])
  have hi:=hρ y (by simp [Op.operands])
  have hsz:0<(tget? TT e).size:=by
    rcases Nat.eq_zero_or_pos (tget? TT e).size with e0|e0
    · unfold nz at hz;rw [e0]at hz;cases hz
    · exact e0
  rw [hx,g1]at hp
  rw [hy]at hi
  obtain⟨L,ad,cp,e1,e2,e3,e4,e5,e6,e7⟩:=rep_sl hsz hp
  obtain⟨m,f1,f2⟩:=rep_int hi
  have hm:0≤m∧m<(n:Int):=by omega
  have hmt:m.toNat=i-9223372036854775808:=by omega
  have had:ad=⟨L.blk,L.base+(o-L.lo),none⟩:=by
    rcases e6 with e6|e6
    · omega
    · exact e6
  refine⟨.pointer (some ⟨L.blk,L.base+(o-L.lo)+(i-9223372036854775808) * (tget? TT e).size,none⟩),?_,?_⟩
  · simp [execOp,e7,f1,Instr.indexAt,asIntOf,run_underlying he,hm,hT.size hz,hmt,had,addr_add]
  · have:L.base+(o-L.lo)+(i-9223372036854775808) * (tget? TT e).size=L.base+(Nat.add o (Nat.mul (Nat.sub i 9223372036854775808) (tget? TT e).size)-L.lo):=by
      show _=L.base+(o+(i-9223372036854775808) * (tget? TT e).size-L.lo);omega
    rw [this]
    exact .ref (.ptr e1 (by show L.lo≤o+_;omega))
end
end Go.X1

set_option maxRecDepth 100000
namespace Go.X1
variable [Nu]
section
variable {P:Program} {TT:List TI} {h:H} {lf:Nat×A×H} {W0:World} {ρ:Operand→A}
theorem rep_bool {α:Al}{v:Value}{b:Bool}(hv:Rep α v (.bool b)):v=.bool b:=by cases hv;rfl
theorem move_sound {x:Operand}:OpV P W0 (.move x) ρ (ρ x):=fun d ty pos af gu α w a h hr hρ=>⟨_,rfl,hρ x (by simp [Op.operands])⟩
theorem assign_sound {x:Operand}:OpV P W0 (.assign x) ρ (ρ x):=fun d ty pos af gu α w a h hr hρ=>⟨_,rfl,hρ x (by simp [Op.operands])⟩
theorem pick_sound {x y z:Operand}{c:A→R}(hl:(oPick (ρ x) (ρ y) (ρ z) c).lf=some lf):∃ r,(c r).lf=some lf∧OpV P W0 (.pick x y z) ρ r:=by
  obtain⟨b,hx,hl⟩:=oBool_lf hl
  refine⟨_,hl,fun d ty pos af gu α w a h hr hρ=>?_⟩
  have h1:=hρ x (by simp [Op.operands])
  have h2:=hρ y (by simp [Op.operands])
  have h3:=hρ z (by simp [Op.operands])
  rw [hx]at h1
  have h1:=rep_bool h1
  refine⟨if b then a.eval y else a.eval z,by simp [execOp,h1,asBool],?_⟩
  cases b
  · exact h3
  · exact h2
theorem not_sound {t:Nat}{x:Operand}{c:A→R}(hl:(oNot (ρ x) c).lf=some lf):∃ r,(c r).lf=some lf∧OpV P W0 (.unOp .not t x) ρ r:=by
  obtain⟨b,hx,hl⟩:=oBool_lf hl
  refine⟨_,hl,fun d ty pos af gu α w a h hr hρ=>?_⟩
  have h1:=hρ x (by simp [Op.operands])
  rw [hx]at h1
  have h1:=rep_bool h1
  exact⟨.bool !b,by simp [execOp,h1,Op.unary],rep_b (brec_not b).symm⟩
theorem neg_sound {t:Nat}{x:Operand}{c:A→R}(hl:(oSub (.int 9223372036854775808) (ρ x) c).lf=some lf):∃ r,(c r).lf=some lf∧OpV P W0 (.unOp .neg t x) ρ r:=by
  have hl2:=hl
  obtain⟨m,_,hl2⟩:=oInt_lf hl2
  obtain⟨n,hx,_⟩:=oInt_lf hl2
  obtain⟨r,h1,h2⟩:=s_sub (P:=P) (t:=t) (x:=x) (y:=x) hl
  refine⟨r,h1,fun d ty pos af gu α w a h hr hρ=>?_⟩
  have hv:=hρ x (by simp [Op.operands])
  have hv2:=hv
  rw [hx]at hv2
  obtain⟨k,e1,e2⟩:=rep_int hv2
  obtain⟨z,q1,q2⟩:=h2 α (.int .i64 0) (a.eval x) (.int rfl) hv
  refine⟨z,?_,q2⟩
  have:=q1 w
  rw [e1]at this
  simp [eqGuard,binOp,Op.intArith]at this
  simp [execOp,e1,Op.unary,Op.intArith,this]
theorem bin_sound {op:BinOp}{t t':Nat}{x y:Operand}{r:A}(hb:Bin P op t x y (ρ x) (ρ y) r):OpV P W0 (.binOp op t x y t') ρ r:=fun d ty pos af gu α w a h hr hρ=>by
  obtain⟨z,q1,q2⟩:=hb α _ _ (hρ x (by simp [Op.operands])) (hρ y (by simp [Op.operands]))
  refine⟨z,?_,q2⟩
  have:=q1 w
  simp only [execOp,Sem.run_bind]at this ⊢
  rw [this];rfl
theorem ext_sound {i:Nat}{x:Operand}{c:A→R}(hl:(oExt i (ρ x) c).lf=some lf):∃ r,(c r).lf=some lf∧OpV P W0 (.extract x i) ρ r:=by
  obtain⟨g,l,hx,hl⟩:=oNd_lf hl
  obtain⟨g1,hl⟩:=oCk_lf hl
  obtain⟨g2,hl⟩:=oCk_lf hl
  have g1:g=1:=beq g1
  have g2:i<llen l:=blt g2
  refine⟨_,hl,fun d ty pos af gu α w a h hr hρ=>?_⟩
  have hv:=hρ x (by simp [Op.operands])
  rw [hx,g1]at hv
  generalize he:a.eval x=v at hv
  cases hv with
  |fn hg=>omega
  |@tup vs _ hv=>
    have hlt:i<vs.length:=by rw [hv.len];exact g2
    refine⟨vs[i],?_,hv.get _ _ (List.getElem?_eq_getElem hlt)⟩
    simp [execOp,he,Instr.extract,hlt]
theorem rep_str {α:Al}{v:Value}{n N:Nat}(hv:Rep α v (.str n N)):∃ s:ByteArray,v=.string s∧s.data.toList.length=n∧encB s.data.toList=N:=by
  cases hv with |str h1 h2=>exact⟨_,rfl,h1,h2⟩
theorem sidx_sound (hT:TabOK P TT){t:Nat}(hk:(tget? TT t).kind=.str){x y:Operand}{c:A→R}(hl:(oSIdx (ρ x) (ρ y) c).lf=some lf):∃ r,(c r).lf=some lf∧OpV P W0 (.index t x y) ρ r:=by
  obtain⟨n,N,hx,hl⟩:=oStr_lf hl
  obtain⟨i,hy,hl⟩:=oInt_lf hl
  obtain⟨g1,hl⟩:=oCk_lf hl
  obtain⟨g2,hl⟩:=oCk_lf hl
  have g1:9223372036854775808≤i:=ble g1
  have g2:i-9223372036854775808<n:=blt g2
  refine⟨_,hl,fun d ty pos af gu α w a h hr hρ=>?_⟩
  have hp:=hρ x (by simp [Op.operands])
  have hi:=hρ y (by simp [Op.operands])
  rw [hx]at hp
  rw [hy]at hi
  obtain⟨s,e1,e2,e3⟩:=rep_str hp
  obtain⟨m,f1,f2⟩:=rep_int hi
  obtain⟨k,rfl⟩:=Int.eq_ofNat_of_zero_le (show (0:Int)≤m by omega)
  have hk2:k=i-9223372036854775808:=by omega
  have hlt:k<s.data.toList.length:=by omega
  have hu:=und_str (hT.und hk (by simp))
  have hsz:k<s.size:=by rw [bsize];exact hlt
  refine⟨.int .u8 (s.data.toList[k].toNat),?_,.byt ?_ ?_⟩
  · have hget:s[k]? =some s.data.toList[k]:=by
      rw [getElem?_pos s k hsz]
      congr 1
    simp [execOp,e1,f1,Instr.index,asIntOf,run_underlying hu,hget]
  · show _=((byt N (i-9223372036854775808):Nat):Int)
    rw [← e3,← hk2,encB_byt _ k _ (List.getElem?_eq_getElem hlt)]
  · show byt N (i-9223372036854775808)<256
    exact Nat.mod_lt _ (by decide)
end
end Go.X1
