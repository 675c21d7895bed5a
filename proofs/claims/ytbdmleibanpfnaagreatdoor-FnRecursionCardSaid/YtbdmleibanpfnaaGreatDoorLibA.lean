/-
  The runtime of the residual functions: values,tries,heaps,results,and the operations as continuations. Written for the kernel's reckoning: recursors,raw literals.
-/
import Init
set_option linter.all false
namespace Go.X1
inductive A where
  |int (n:Nat)
  |byt (n:Nat)
  |bool (b:Bool)
  |str (n N:Nat)
  |ref (g b o n:Nat)
  |nd (g:Nat) (cs:A)
  |nl
  |cn (x r:A)
inductive T (α:Type) where
  |lf
  |nd (x:α) (l r:T α)
inductive B where
  |no
  |cs (n lo:Nat) (t:T A)
  |mp (kt:Nat) (es:A)
inductive H where
  |mk (t:T B) (nx ro:Nat)
inductive R where
  |bad
  |go (e:Nat) (vs:A) (h:H)
abbrev junk:A:=.nl
abbrev und:A:=.nd 1 .nl
def h0:Nat:=0
def h1:Nat:=h0
def h2:Nat:=h1
def h3:Nat:=h2
def h4:Nat:=h3
def h5:Nat:=h4
def h6:Nat:=h5
def h7:Nat:=h6
def h8:Nat:=h7
def h9:Nat:=h8
def h10:Nat:=h9
abbrev kon {α:Type}(a:α)(_:Nat):α:=a
noncomputable section
def fNt:Nat→R:=kon (fun _=>.bad) h10
def fN:Nat→R:=fun _=>.bad
def fI:Nat→Nat→R:=fun _ _=>.bad
def fB:Bool→R:=fun _=>.bad
def fG:Nat→A→R→R:=fun _ _ _=>.bad
def fR:Nat→Nat→Nat→Nat→R:=fun _ _ _ _=>.bad
def fC:A→A→R→R→R:=fun _ _ _ _=>.bad
def oInt (x:A)(k:Nat→R):R:=@A.rec (fun _=>R) k fN fB fI fR fG .bad fC x
def oByt (x:A)(k:Nat→R):R:=@A.rec (fun _=>R) fN k fB fI fR fG .bad fC x
def oBool (x:A)(k:Bool→R):R:=@A.rec (fun _=>R) fN fN k fI fR fG .bad fC x
def oStr (x:A)(k:Nat→Nat→R):R:=@A.rec (fun _=>R) fN fN fB k fR fG .bad fC x
def oRef (x:A)(k:Nat→Nat→Nat→Nat→R):R:=@A.rec (fun _=>R) fN fN fB fI k fG .bad fC x
def oNd (x:A)(k:Nat→A→R):R:=@A.rec (fun _=>R) fNt fN fB fI fR (fun g l _=>k g l) .bad fC x
def oCn (x:A)(k:A→A→R):R:=@A.rec (fun _=>R) fN fN fB fI fR fG .bad (fun a r _ _=>k a r) x
def oEnd (x:A)(r:R):R:=@A.rec (fun _=>R) fN fN fB fI fR fG r fC x
def oCk (b:Bool)(r:R):R:=(@Bool.rec (fun _=>R) (.bad) (r) (b))
def oOne (x:A)(r:R):R:=@A.rec (fun _=>R) (fun _=>r) (fun _=>r) (fun _=>r) (fun _ _=>r) (fun _ _ _ _=>r) (fun g _ _=>oCk ((@Bool.rec (fun _=>Bool) (Nat.ble (nat_lit 100) g) (true) (Nat.beq g (nat_lit 2)))) r) (fNt (nat_lit 0)) fC x
def oIntE (x:A)(k:Nat→R)(e:Nat→Nat→Nat→Nat→R):R:=@A.rec (fun _=>R) k fN fB fI e fG .bad fC x
def oSy (g b u i:Nat)(k:Nat→Nat→R):R:=oCk (Nat.beq g (nat_lit 8)) (oCk (Nat.beq b (nat_lit 0)) (k u i))
def nc1 (i j m:Nat):Bool:=Nat.ble (Nat.add (Nat.mod (Nat.div i m) (nat_lit 10)) (Nat.mod (Nat.div j m) (nat_lit 10))) (nat_lit 9)
def nc (i j:Nat):Bool:=(@Bool.rec (fun _=>Bool) (false) ((@Bool.rec (fun _=>Bool) (false) (nc1 i j (nat_lit 100)) (nc1 i j (nat_lit 10)))) (nc1 i j (nat_lit 1)))
def syAdd (u i v j:Nat)(c:A→R):R:=oCk (nc i j) (oCk (Nat.ble (Nat.add u v) (nat_lit 999)) (c (.ref (nat_lit 8) (nat_lit 0) (Nat.add u v) (Nat.add i j))))
def syInc (u i a:Nat)(c:A→R):R:=oCk (Nat.ble (nat_lit 9223372036854775808) a) (oCk (Nat.ble (Nat.add u (Nat.sub a (nat_lit 9223372036854775808))) (nat_lit 999)) (c (.ref (nat_lit 8) (nat_lit 0) (Nat.add u (Nat.sub a (nat_lit 9223372036854775808))) (Nat.add i (Nat.mul (nat_lit 1000) (Nat.sub a (nat_lit 9223372036854775808)))))))
def oAdd (x y:A)(c:A→R):R:=oIntE x (fun a=>oIntE y (fun b=>(@Bool.rec (fun _=>R) (.bad) ((@Bool.rec (fun _=>R) (.bad) (c (.int (Nat.sub (Nat.add a b) (nat_lit 9223372036854775808)))) (Nat.ble (Nat.add a b) (nat_lit 27670116110564327423)))) (Nat.ble (nat_lit 9223372036854775808) (Nat.add a b)))) fun g b u i=>oSy g b u i fun u i=>syInc u i a c) fun g b u i=>oSy g b u i fun u i=>oIntE y (fun a=>syInc u i a c) fun g b v j=>oSy g b v j fun v j=>syAdd u i v j c
def oSub (x y:A)(c:A→R):R:=oInt x fun a=>oInt y fun b=>(@Bool.rec (fun _=>R) (.bad) ((@Bool.rec (fun _=>R) (.bad) (c (.int (Nat.sub (Nat.add a (nat_lit 9223372036854775808)) b))) (Nat.ble a (Nat.add b (nat_lit 9223372036854775807))))) (Nat.ble b (Nat.add a (nat_lit 9223372036854775808))))
def oMul (x y:A)(c:A→R):R:=oIntE x (fun a=>oIntE y (fun b=>oCk (Nat.ble (nat_lit 9223372036854775808) a) (oCk (Nat.ble (nat_lit 9223372036854775808) b) (oCk (Nat.ble (Nat.mul (Nat.sub a (nat_lit 9223372036854775808)) (Nat.sub b (nat_lit 9223372036854775808))) (nat_lit 9223372036854775807)) (c (.int (Nat.add (nat_lit 9223372036854775808) (Nat.mul (Nat.sub a (nat_lit 9223372036854775808)) (Nat.sub b (nat_lit 9223372036854775808))))))))) fun g b u i=>oSy g b u i fun u i=>oCk (Nat.beq a (nat_lit 9223372036854775810)) (syAdd u i u i c)) fun g b u i=>oSy g b u i fun _ i=>oIntE y (fun _=>.bad) fun g b v j=>oSy g b v j fun _ j=>c (.ref (nat_lit 8) (nat_lit 9) i j)
def oQuo (x y:A)(c:A→R):R:=oIntE x (fun a=>oInt y fun b=>oCk (Nat.ble (nat_lit 9223372036854775808) a) (oCk (Nat.blt (nat_lit 9223372036854775808) b) (oCk (Nat.ble a (nat_lit 18446744073709551615)) (c (.int (Nat.add (nat_lit 9223372036854775808) (Nat.div (Nat.sub a (nat_lit 9223372036854775808)) (Nat.sub b (nat_lit 9223372036854775808))))))))) fun g b i j=>oCk (Nat.beq g (nat_lit 8)) (oCk (Nat.beq b (nat_lit 9)) (oInt y fun m=>oCk (Nat.beq m (nat_lit 9223372036854775810)) (c (.ref (nat_lit 8) (nat_lit 10) i j))))
def oRem (x y:A)(c:A→R):R:=oIntE x (fun a=>oInt y fun b=>oCk (Nat.ble (nat_lit 9223372036854775808) a) (oCk (Nat.blt (nat_lit 9223372036854775808) b) (c (.int (Nat.add (nat_lit 9223372036854775808) (Nat.mod (Nat.sub a (nat_lit 9223372036854775808)) (Nat.sub b (nat_lit 9223372036854775808)))))))) fun g b u i=>oCk (Nat.beq g (nat_lit 8)) (oInt y fun m=>oCk (Nat.beq m (Nat.add (nat_lit 9223372036854775808) u)) (oCk (Nat.blt (nat_lit 0) u) (oCk (Nat.ble u (nat_lit 1000)) ((@Bool.rec (fun _=>R) (oCk (Nat.beq b (nat_lit 2)) (c (.int (Nat.add (nat_lit 9223372036854775808) i)))) (c (.ref (nat_lit 8) (nat_lit 0) (Nat.sub u (nat_lit 1)) i)) (Nat.beq b (nat_lit 1)))))))
def syGe (b u m:Nat)(c:Bool→R)(r:R):R:=(@Bool.rec (fun _=>R) (oCk (Nat.beq b (nat_lit 8)) ((@Bool.rec (fun _=>R) (oCk (Nat.beq u (nat_lit 1)) (oCk (Nat.ble m (nat_lit 9223372036855824385)) (c false))) (oCk (Nat.ble (nat_lit 9223372036855824385) m) (c true)) (Nat.beq u (nat_lit 0))))) ((@Bool.rec (fun _=>R) ((@Bool.rec (fun _=>R) (r) (c false) (Nat.ble m (nat_lit 9223372036854775808)))) (c true) (Nat.blt (Nat.add (nat_lit 9223372036854775808) u) m))) (Nat.beq b (nat_lit 0)))
def syLt (g b u m:Nat)(c:Bool→R):R:=oCk (Nat.beq g (nat_lit 8)) (syGe b u m c .bad)
def oLt (x y:A)(c:A→R):R:=oIntE x (fun a=>oIntE y (fun b=>c (.bool (Nat.blt a b))) fun g b u _=>syLt g b u (Nat.succ a) fun t=>c (.bool ((@Bool.rec (fun _=>Bool) (true) (false) (t))))) fun g b u i=>oIntE y (fun m=>syLt g b u m fun t=>c (.bool t)) fun g2 b2 v j=>oSy g b u i fun _ i=>oSy g2 b2 v j fun _ j=>oCk (Nat.blt i j) (oCk (Nat.beq (Nat.mod (Nat.sub j i) (nat_lit 1000)) (nat_lit 0)) (c (.bool true)))
def oLe (x y:A)(c:A→R):R:=oIntE x (fun a=>oIntE y (fun b=>c (.bool (Nat.ble a b))) fun g b u _=>syLt g b u a fun t=>c (.bool ((@Bool.rec (fun _=>Bool) (true) (false) (t))))) fun g b u _=>oInt y fun m=>syLt g b u (Nat.succ m) fun t=>c (.bool t)
def oEqI (x y:A)(c:A→R):R:=oIntE x (fun a=>oInt y fun b=>c (.bool (Nat.beq a b))) fun g b u i=>oSy g b u i fun _ i=>oIntE y (fun _=>.bad) fun g b v j=>oSy g b v j fun _ j=>oCk (Nat.beq i j) (c (.bool true))
def oNeI (x y:A)(c:A→R):R:=oInt x fun a=>oInt y fun b=>c (.bool ((@Bool.rec (fun _=>Bool) (true) (false) (Nat.beq a b))))
def oMax (x y:A)(c:A→R):R:=oInt x fun a=>oInt y fun b=>c (.int ((@Bool.rec (fun _=>Nat) (a) (b) (Nat.ble a b))))
def oMin (x y:A)(c:A→R):R:=oInt x fun a=>oInt y fun b=>c (.int ((@Bool.rec (fun _=>Nat) (b) (a) (Nat.ble a b))))
def bLt (x y:A)(c:A→R):R:=oByt x fun a=>oByt y fun b=>c (.bool (Nat.blt a b))
def bLe (x y:A)(c:A→R):R:=oByt x fun a=>oByt y fun b=>c (.bool (Nat.ble a b))
def bEq (x y:A)(c:A→R):R:=oByt x fun a=>oByt y fun b=>c (.bool (Nat.beq a b))
def bNe (x y:A)(c:A→R):R:=oByt x fun a=>oByt y fun b=>c (.bool ((@Bool.rec (fun _=>Bool) (true) (false) (Nat.beq a b))))
def bAdd (x y:A)(c:A→R):R:=oByt x fun a=>oByt y fun b=>oCk (Nat.ble (Nat.add a b) (nat_lit 255)) (c (.byt (Nat.add a b)))
def bSub (x y:A)(c:A→R):R:=oByt x fun a=>oByt y fun b=>oCk (Nat.ble b a) (c (.byt (Nat.sub a b)))
def oI2I (x:A)(c:A→R):R:=oInt x fun a=>oCk (Nat.ble a (nat_lit 18446744073709551615)) (c (.int a))
def oB2I (x:A)(c:A→R):R:=oByt x fun a=>c (.int (Nat.add (nat_lit 9223372036854775808) a))
def oI2B (x:A)(c:A→R):R:=oInt x fun a=>oCk (Nat.ble (nat_lit 9223372036854775808) a) (oCk (Nat.ble a (nat_lit 9223372036854776063)) (c (.byt (Nat.sub a (nat_lit 9223372036854775808)))))
def oB2B (x:A)(c:A→R):R:=oByt x fun a=>c (.byt a)
def oNot (x:A)(c:A→R):R:=oBool x fun a=>c (.bool ((@Bool.rec (fun _=>Bool) (true) (false) (a))))
def eqb (a b:Bool):Bool:=(@Bool.rec (fun _=>Bool) ((@Bool.rec (fun _=>Bool) (true) (false) (b))) (b) (a))
def oEqB (x y:A)(c:A→R):R:=oBool x fun a=>oBool y fun b=>c (.bool (eqb a b))
def oNeB (x y:A)(c:A→R):R:=oBool x fun a=>oBool y fun b=>c (.bool ((@Bool.rec (fun _=>Bool) (true) (false) (eqb a b))))
def oPick (x a b:A)(c:A→R):R:=oBool x fun t=>c ((@Bool.rec (fun _=>A) (b) (a) (t)))
def oIf (x:A)(h:H)(a b:H→R):R:=oBool x fun t=>(@Bool.rec (fun _=>R) (b h) (a h) (t))
def oGrd (x:A)(w:Bool)(h:H)(m:(A→H→R)→R)(k:A→H→R):R:=
  @A.rec (fun _=>R) fN fN (fun t=>(@Bool.rec (fun _=>R) (k und h) (m k) (eqb t w))) fI fR (fun g l _=>@A.rec (fun _=>R) fN fN fB fI fR fG (oCk (Nat.beq g (nat_lit 1)) (k und h)) fC l) .bad fC x
def gsel (x:A)(w:Bool)(v:A):A:=
  @A.rec (fun _=>A) (fun _=>junk) (fun _=>junk) (fun t=>(@Bool.rec (fun _=>A) (und) (v) (eqb t w))) (fun _ _=>junk) (fun _ _ _ _=>junk) (fun g l _=>@A.rec (fun _=>A) (fun _=>junk) (fun _=>junk) (fun _=>junk) (fun _ _=>junk) (fun _ _ _ _=>junk) (fun _ _ _=>junk) ((@Bool.rec (fun _=>A) (junk) (und) (Nat.beq g (nat_lit 1)))) (fun _ _ _ _=>junk) l) junk (fun _ _ _ _=>junk) x
def byt (N i:Nat):Nat:=Nat.mod (Nat.shiftRight N (Nat.mul (nat_lit 8) i)) (nat_lit 256)
def sbt (N l h:Nat):Nat:=Nat.mod (Nat.shiftRight N (Nat.mul (nat_lit 8) l)) (Nat.pow (nat_lit 2) (Nat.mul (nat_lit 8) (Nat.sub h l)))
def mkS (n N:Nat)(c:A→R):R:=oCk (Nat.ble n (nat_lit 1000000)) ((@Bool.rec (fun _=>R) (c (.str n N)) (c (.str n N)) (Nat.ble N (nat_lit 0))))
def oSLen (x:A)(c:A→R):R:=oStr x fun n _=>c (.int (Nat.add (nat_lit 9223372036854775808) n))
def oSIdx (x y:A)(c:A→R):R:=oStr x fun n N=>oInt y fun i=>oCk (Nat.ble (nat_lit 9223372036854775808) i) (oCk (Nat.blt (Nat.sub i (nat_lit 9223372036854775808)) n) (c (.byt (byt N (Nat.sub i (nat_lit 9223372036854775808))))))
def oSSl (x lo hi:A)(c:A→R):R:=oStr x fun n N=>oInt lo fun l=>oInt hi fun h=>oCk (Nat.ble (nat_lit 9223372036854775808) l) (oCk (Nat.ble l h) (oCk (Nat.ble h (Nat.add (nat_lit 9223372036854775808) n)) (mkS (Nat.sub h l) (sbt N (Nat.sub l (nat_lit 9223372036854775808)) (Nat.sub h (nat_lit 9223372036854775808))) c)))
def seqb (n N m M:Nat):Bool:=(@Bool.rec (fun _=>Bool) (false) (Nat.beq N M) (Nat.beq n m))
def oNil (gn lo hi:Nat)(neg:Bool)(x:A)(c:A→R):R:=oRef x fun g _ _ _=>(@Bool.rec (fun _=>R) (oCk (Nat.ble lo g) (oCk (Nat.ble g hi) (c (.bool neg)))) (c (.bool ((@Bool.rec (fun _=>Bool) (true) (false) (neg))))) (Nat.beq g gn))
def tget {α:Type}(d:α)(t:T α):Nat→α:=@T.rec α (fun _=>Nat→α) (fun _=>d) (fun x _ _ gl gr i=>@Bool.rec (fun _=>α) (@Bool.rec (fun _=>α) (gr (Nat.sub (Nat.div i (nat_lit 2)) (nat_lit 1))) (gl (Nat.div i (nat_lit 2))) (Nat.beq (Nat.mod i (nat_lit 2)) (nat_lit 1))) x (Nat.beq i (nat_lit 0))) t
def tset {α:Type}(v:α)(t:T α):Nat→T α:=@T.rec α (fun _=>Nat→T α) (fun _=>.nd v .lf .lf) (fun x l r gl gr i=>(@Bool.rec (fun _=>T α) ((@Bool.rec (fun _=>T α) (.nd x l (gr (Nat.sub (Nat.div i (nat_lit 2)) (nat_lit 1)))) (.nd x (gl (Nat.div i (nat_lit 2))) r) (Nat.beq (Nat.mod i (nat_lit 2)) (nat_lit 1)))) (.nd v l r) (Nat.beq i (nat_lit 0)))) t
def tgets (t:T A)(n:Nat):Nat→A:=@Nat.rec (fun _=>Nat→A) (fun _=>.nl) (fun _ ih o=>.cn (tget junk t o) (ih (Nat.succ o))) n
def tsets (l:A):T A→Nat→T A:=@A.rec (fun _=>T A→Nat→T A) (fun _ t _=>t) (fun _ t _=>t) (fun _ t _=>t) (fun _ _ t _=>t) (fun _ _ _ _ t _=>t) (fun _ _ _ t _=>t) (fun t _=>t) (fun x _ _ ih t i=>ih (tset x t i) (Nat.succ i)) l
def llen (l:A):Nat:=@A.rec (fun _=>Nat) (fun _=>(nat_lit 0)) (fun _=>(nat_lit 0)) (fun _=>(nat_lit 0)) (fun _ _=>(nat_lit 0)) (fun _ _ _ _=>(nat_lit 0)) (fun _ _ _=>(nat_lit 0)) (nat_lit 0) (fun _ _ _ ih=>Nat.succ ih) l
def nth (l:A):Nat→A:=@A.rec (fun _=>Nat→A) (fun _ _=>junk) (fun _ _=>junk) (fun _ _=>junk) (fun _ _ _=>junk) (fun _ _ _ _ _=>junk) (fun _ _ _ _=>junk) (fun _=>junk) (fun x _ _ ih i=>@Nat.rec (fun _=>A) x (fun i _=>ih i) i) l
def lapp (l m:A):A:=@A.rec (fun _=>A) (fun _=>m) (fun _=>m) (fun _=>m) (fun _ _=>m) (fun _ _ _ _=>m) (fun _ _ _=>m) m (fun x _ _ ih=>.cn x ih) l
def oH (h:H)(k:T B→Nat→Nat→R):R:=@H.rec (fun _=>R) k h
def fCs:Nat→Nat→T A→R:=fun _ _ _=>.bad
def fMp:Nat→A→R:=fun _ _=>.bad
def oBlk (h:H)(b:Nat)(k:Nat→Nat→T A→R):R:=oH h fun t _ _=>@B.rec (fun _=>R) .bad k fMp (tget .no t b)
def oMap (h:H)(b:Nat)(k:Nat→A→R):R:=oH h fun t _ _=>@B.rec (fun _=>R) .bad fCs k (tget .no t b)
def hput (h:H)(b:Nat)(v:B)(c:H→R):R:=oH h fun t nx ro=>oCk (Nat.ble ro b) (c (.mk (tset v t b) nx ro))
def hnew (h:H)(v:B)(c:Nat→H→R):R:=oH h fun t nx ro=>oCk (Nat.ble nx (nat_lit 100000000)) (c nx (.mk (tset v t nx) (Nat.succ nx) ro))
def oPt (x:A)(k:Nat→Nat→R):R:=oRef x fun g b o _=>oCk (Nat.beq g (nat_lit 1)) (k b o)
def oLd (p:A)(h:H)(c:A→R):R:=oPt p fun b o=>oBlk h b fun n lo t=>oCk (Nat.ble lo o) (oCk (Nat.blt o n) (c (tget junk t o)))
def oLdN (m:Nat)(p:A)(h:H)(c:A→R):R:=oPt p fun b o=>oBlk h b fun n lo t=>oCk (Nat.ble lo o) (oCk (Nat.ble (Nat.add o m) n) (c (.nd (nat_lit 0) (tgets t m o))))
def oSt (p v:A)(h:H)(c:H→R):R:=oPt p fun b o=>oBlk h b fun n lo t=>oCk (Nat.ble lo o) (oCk (Nat.blt o n) (oOne v (hput h b (.cs n lo (tset v t o)) c)))
def oStN (m:Nat)(p v:A)(h:H)(c:H→R):R:=oPt p fun b o=>oBlk h b fun n lo t=>oNd v fun g l=>oCk (Nat.beq g (nat_lit 0)) (oCk (Nat.beq (llen l) m) (oCk (Nat.ble lo o) (oCk (Nat.ble (Nat.add o m) n) (hput h b (.cs n lo (tsets l t o)) c))))
def oNew (l:A)(h:H)(c:A→H→R):R:=hnew h (.cs (llen l) (nat_lit 0) (tsets l .lf (nat_lit 0))) fun b h=>c (.ref (nat_lit 1) b (nat_lit 0) (nat_lit 0)) h
def oNewV (v:A)(h:H)(c:A→H→R):R:=oNd v fun g l=>oCk (Nat.beq g (nat_lit 0)) (oNew l h c)
def oFld (o:Nat)(p:A)(c:A→R):R:=oPt p fun b i=>c (.ref (nat_lit 1) b (Nat.add i o) (nat_lit 0))
def oDeref (p:A)(c:A→R):R:=oPt p fun b o=>c (.ref (nat_lit 1) b o (nat_lit 0))
def oLen (x:A)(c:A→R):R:=oRef x fun g b o n=>(@Bool.rec (fun _=>R) ((@Bool.rec (fun _=>R) (oCk (Nat.ble (nat_lit 10) g) (c (.int (Nat.add (nat_lit 9223372036854775808) n)))) (oCk (Nat.beq b (nat_lit 7)) (c (.ref (nat_lit 8) (nat_lit 8) o (nat_lit 0)))) (Nat.beq g (nat_lit 8)))) (c (.int (nat_lit 9223372036854775808))) (Nat.beq g (nat_lit 3)))
def oIdx (sz:Nat)(x y:A)(c:A→R):R:=oRef x fun g b o n=>oInt y fun i=>oCk (Nat.beq g (Nat.add (nat_lit 10) sz)) (oCk (Nat.ble (nat_lit 9223372036854775808) i) (oCk (Nat.blt (Nat.sub i (nat_lit 9223372036854775808)) n) (c (.ref (nat_lit 1) b (Nat.add o (Nat.mul (Nat.sub i (nat_lit 9223372036854775808)) sz)) (nat_lit 0)))))
def oBSl (sz n:Nat)(l:A)(h:H)(c:A→H→R):R:=oCk (Nat.beq (llen l) (Nat.mul n sz)) (hnew h (.cs (Nat.mul n sz) (nat_lit 0) (tsets l .lf (nat_lit 0))) fun b h=>c (.ref (Nat.add (nat_lit 10) sz) b (nat_lit 0) n) h)
def oSl (sz:Nat)(x lo hi:A)(c:A→R):R:=oRef x fun g b o n=>oInt lo fun l=>oInt hi fun u=>oCk (Nat.ble (nat_lit 9223372036854775808) l) (oCk (Nat.ble l u) ((@Bool.rec (fun _=>R) (oCk (Nat.beq g (Nat.add (nat_lit 10) sz)) (oCk (Nat.ble u (Nat.add (nat_lit 9223372036854775808) n)) (c (.ref g b (Nat.add o (Nat.mul (Nat.sub l (nat_lit 9223372036854775808)) sz)) (Nat.sub u l))))) (oCk (Nat.ble u (nat_lit 9223372036854775808)) (c x)) (Nat.beq g (nat_lit 3)))))
def oCells (sz:Nat)(x:A)(h:H)(c:Nat→A→R):R:=oRef x fun g b o n=>(@Bool.rec (fun _=>R) (oCk (Nat.beq g (Nat.add (nat_lit 10) sz)) (oBlk h b fun m lo t=>oCk (Nat.ble lo o) (oCk (Nat.ble (Nat.add o (Nat.mul n sz)) m) (c n (tgets t (Nat.mul n sz) o))))) (c (nat_lit 0) .nl) (Nat.beq g (nat_lit 3)))
def app (sz n:Nat)(l:A)(x:A)(h:H)(c:A→H→R):R:=oRef x fun g b o m=>(@Bool.rec (fun _=>R) (oCk (Nat.beq g (Nat.add (nat_lit 10) sz)) ((@Bool.rec (fun _=>R) (oCk (Nat.ble (Nat.add m n) (nat_lit 1000000)) (oBlk h b fun q lo t=>oCk (Nat.ble lo o) (oCk (Nat.ble (Nat.add o (Nat.mul m sz)) q) (hput h b .no fun h=>hnew h (.cs (Nat.add (Nat.add o (Nat.mul m sz)) (Nat.mul n sz)) o (tsets l t (Nat.add o (Nat.mul m sz)))) fun b h=>c (.ref g b o (Nat.add m n)) h)))) (c x h) (Nat.beq n (nat_lit 0))))) ((@Bool.rec (fun _=>R) (oCk (Nat.ble n (nat_lit 1000000)) (hnew h (.cs (Nat.mul n sz) (nat_lit 0) (tsets l .lf (nat_lit 0))) fun b h=>c (.ref (Nat.add (nat_lit 10) sz) b (nat_lit 0) n) h)) (c x h) (Nat.beq n (nat_lit 0)))) (Nat.beq g (nat_lit 3)))
def oApp (sz:Nat)(x y:A)(h:H)(c:A→H→R):R:=oCells sz y h fun n l=>app sz n l x h c
def bytesL (n:Nat):Nat→A:=@Nat.rec (fun _=>Nat→A) (fun _=>.nl) (fun _ ih N=>.cn (.byt (Nat.mod N (nat_lit 256))) (ih (Nat.div N (nat_lit 256)))) n
def oS2B (x:A)(h:H)(c:A→H→R):R:=oStr x fun n N=>hnew h (.cs n (nat_lit 0) (tsets (bytesL n N) .lf (nat_lit 0))) fun b h=>c (.ref (nat_lit 11) b (nat_lit 0) n) h
def unB (l:A):Nat:=@A.rec (fun _=>Nat) (fun _=>(nat_lit 0)) (fun n=>n) (fun _=>(nat_lit 0)) (fun _ _=>(nat_lit 0)) (fun _ _ _ _=>(nat_lit 0)) (fun _ _ _=>(nat_lit 0)) (nat_lit 0) (fun _ _ a ih=>Nat.add a (Nat.mul ih (nat_lit 256))) l
def isB (x:A):Bool:=@A.rec (fun _=>Bool) (fun _=>false) (fun _=>true) (fun _=>false) (fun _ _=>false) (fun _ _ _ _=>false) (fun _ _ _=>false) false (fun _ _ _ _=>false) x
def allB (l:A):Bool:=@A.rec (fun _=>Bool) (fun _=>false) (fun _=>false) (fun _=>false) (fun _ _=>false) (fun _ _ _ _=>false) (fun _ _ _=>false) true (fun x _ _ ih=>(@Bool.rec (fun _=>Bool) (false) (ih) (isB x))) l
def reps (z:A)(n:Nat):A:=@Nat.rec (fun _=>A) .nl (fun _ ih=>lapp z ih) n
def oMk (sz:Nat)(z n:A)(h:H)(c:A→H→R):R:=oInt n fun n=>oCk (Nat.ble (nat_lit 9223372036854775808) n) (oCk (Nat.ble (Nat.sub n (nat_lit 9223372036854775808)) (nat_lit 1000000)) (oBSl sz (Nat.sub n (nat_lit 9223372036854775808)) (reps z (Nat.sub n (nat_lit 9223372036854775808))) h c))
def oCopy (sz:Nat)(x y:A)(h:H)(c:A→H→R):R:=oCells sz y h fun n l=>oRef x fun g b o m=>(@Bool.rec (fun _=>R) (oCk (Nat.ble n m) (oCk (Nat.beq g (Nat.add (nat_lit 10) sz)) (oBlk h b fun q lo t=>oCk (Nat.ble lo o) (oCk (Nat.ble (Nat.add o (Nat.mul m sz)) q) (hput h b (.cs q lo (tsets l t o)) fun h=>c (.int (Nat.add (nat_lit 9223372036854775808) n)) h))))) (oCk ((@Bool.rec (fun _=>Bool) (Nat.beq g (Nat.add (nat_lit 10) sz)) (true) (Nat.beq g (nat_lit 3)))) (c (.int (nat_lit 9223372036854775808)) h)) (Nat.beq n (nat_lit 0)))
def fKI:Nat→Nat→Bool:=fun _ _=>false
def eqA (x:A):A→Bool:=@A.rec (fun _=>A→Bool) (fun n=>fun y=>@A.rec (fun _=>Bool) (fun m=>Nat.beq n m) (fun _=>false) (fun _=>false) fKI (fun _ _ _ _=>false) (fun _ _ _=>false) false (fun _ _ _ _=>false) y) (fun n=>fun y=>@A.rec (fun _=>Bool) (fun _=>false) (fun m=>Nat.beq n m) (fun _=>false) fKI (fun _ _ _ _=>false) (fun _ _ _=>false) false (fun _ _ _ _=>false) y) (fun a=>fun y=>@A.rec (fun _=>Bool) (fun _=>false) (fun _=>false) (fun b=>eqb a b) fKI (fun _ _ _ _=>false) (fun _ _ _=>false) false (fun _ _ _ _=>false) y) (fun n N=>fun y=>@A.rec (fun _=>Bool) (fun _=>false) (fun _=>false) (fun _=>false) (fun m M=>seqb n N m M) (fun _ _ _ _=>false) (fun _ _ _=>false) false (fun _ _ _ _=>false) y) (fun g b o n=>fun y=>@A.rec (fun _=>Bool) (fun _=>false) (fun _=>false) (fun _=>false) fKI (fun g2 b2 o2 n2=>(@Bool.rec (fun _=>Bool) (false) ((@Bool.rec (fun _=>Bool) (false) ((@Bool.rec (fun _=>Bool) (false) (Nat.beq n n2) (Nat.beq o o2))) (Nat.beq b b2))) (Nat.beq g g2))) (fun _ _ _=>false) false (fun _ _ _ _=>false) y) (fun g _ ih=>fun y=>@A.rec (fun _=>Bool) (fun _=>false) (fun _=>false) (fun _=>false) fKI (fun _ _ _ _=>false) (fun g2 l _=>(@Bool.rec (fun _=>Bool) (false) (ih l) (Nat.beq g g2))) false (fun _ _ _ _=>false) y) (fun y=>@A.rec (fun _=>Bool) (fun _=>false) (fun _=>false) (fun _=>false) fKI (fun _ _ _ _=>false) (fun _ _ _=>false) true (fun _ _ _ _=>false) y) (fun _ _ i1 i2=>fun y=>@A.rec (fun _=>Bool) (fun _=>false) (fun _=>false) (fun _=>false) fKI (fun _ _ _ _=>false) (fun _ _ _=>false) false (fun a r _ _=>(@Bool.rec (fun _=>Bool) (false) (i2 r) (i1 a))) y) x
def oStrE (x:A)(k:Nat→Nat→R)(e:A→R):R:=@A.rec (fun _=>R) fN fN fB k fR (fun g l _=>oCk (Nat.beq g (nat_lit 2)) (e l)) .bad fC x
def pcs (x:A)(k:A→R):R:=oStrE x (fun n N=>k (bytesL n N)) k
def mkP (l:A)(c:A→R):R:=oCk (Nat.ble (llen l) (nat_lit 1000)) (c (.nd (nat_lit 2) l))
def oSCat (x y:A)(c:A→R):R:=oStrE x (fun n N=>oStrE y (fun m M=>mkS (Nat.add n m) (Nat.add N (Nat.mul M (Nat.pow (nat_lit 2) (Nat.mul (nat_lit 8) n)))) c) fun l=>mkP (lapp (bytesL n N) l) c) fun k=>pcs y fun l=>mkP (lapp k l) c
def oEqS (x y:A)(c:A→R):R:=oStrE x (fun n N=>oStr y fun m M=>c (.bool (seqb n N m M))) fun k=>oStrE y fI fun l=>oCk (eqA k l) (c (.bool true))
def oNeS (x y:A)(c:A→R):R:=oStrE x (fun n N=>oStr y fun m M=>c (.bool ((@Bool.rec (fun _=>Bool) (true) (false) (seqb n N m M))))) fun k=>oStrE y fI fun l=>oCk (eqA k l) (c (.bool false))
def isC (x:A):Bool:=@A.rec (fun _=>Bool) (fun _=>false) (fun _=>true) (fun _=>false) (fun _ _=>false) (fun g b _ _=>(@Bool.rec (fun _=>Bool) (false) (Nat.beq b (nat_lit 3)) (Nat.beq g (nat_lit 8)))) (fun _ _ _=>false) false (fun _ _ _ _=>false) x
def allC (l:A):Bool:=@A.rec (fun _=>Bool) (fun _=>false) (fun _=>false) (fun _=>false) (fun _ _=>false) (fun _ _ _ _=>false) (fun _ _ _=>false) true (fun x _ _ ih=>(@Bool.rec (fun _=>Bool) (false) (ih) (isC x))) l
def oAppS (x y:A)(h:H)(c:A→H→R):R:=oStrE y (fun n N=>app (nat_lit 1) n (bytesL n N) x h c) fun l=>oCk (allC l) (app (nat_lit 1) (llen l) l x h c)
def oB2S (x:A)(h:H)(c:A→R):R:=oCells (nat_lit 1) x h fun n l=>(@Bool.rec (fun _=>R) (oCk (allC l) (c (.nd (nat_lit 2) l))) (mkS n (unB l) c) (allB l))
def oExt (i:Nat)(x:A)(c:A→R):R:=oNd x fun g l=>oCk (Nat.beq g (nat_lit 1)) (oCk (Nat.blt i (llen l)) (c (nth l i)))
def isS (x:A):Bool:=@A.rec (fun _=>Bool) (fun _=>false) (fun _=>false) (fun _=>false) (fun _ _=>true) (fun _ _ _ _=>false) (fun _ _ _=>false) false (fun _ _ _ _=>false) x
def isNl (x:A):Bool:=@A.rec (fun _=>Bool) (fun _=>false) (fun _=>false) (fun _=>false) (fun _ _=>false) (fun _ _ _ _=>false) (fun _ _ _=>false) true (fun _ _ _ _=>false) x
def isSs (x:A):Bool:=@A.rec (fun _=>Bool) (fun _=>false) (fun _=>false) (fun _=>false) (fun _ _=>false) (fun _ _ _ _=>false) (fun _ _ _=>false) true (fun a _ _ ih=>(@Bool.rec (fun _=>Bool) (false) (ih) (isS a))) x
def kcl (x:A):Nat:=@A.rec (fun _=>Nat) (fun _=>(nat_lit 0)) (fun _=>(nat_lit 1)) (fun _=>(nat_lit 98)) (fun _ _=>(nat_lit 99)) (fun _ _ _ _=>(nat_lit 98)) (fun g l _=>(@Bool.rec (fun _=>Nat) ((nat_lit 98)) ((@Bool.rec (fun _=>Nat) ((nat_lit 98)) ((@Bool.rec (fun _=>Nat) ((nat_lit 98)) ((nat_lit 97)) (Nat.beq (llen l) (nat_lit 2)))) (isSs l))) (Nat.beq g (nat_lit 0)))) (nat_lit 98) (fun _ _ _ _=>(nat_lit 98)) x
def keq (x y:A):Bool:=@A.rec (fun _=>Bool) (fun n=>@A.rec (fun _=>Bool) (fun m=>Nat.beq n m) (fun _=>false) (fun _=>false) fKI (fun _ _ _ _=>false) (fun _ _ _=>false) false (fun _ _ _ _=>false) y) (fun n=>@A.rec (fun _=>Bool) (fun _=>false) (fun m=>Nat.beq n m) (fun _=>false) fKI (fun _ _ _ _=>false) (fun _ _ _=>false) false (fun _ _ _ _=>false) y) (fun _=>false) (fun n N=>@A.rec (fun _=>Bool) (fun _=>false) (fun _=>false) (fun _=>false) (fun m M=>seqb n N m M) (fun _ _ _ _=>false) (fun _ _ _=>false) false (fun _ _ _ _=>false) y) (fun _ _ _ _=>false) (fun _ _ _=>eqA x y) false (fun _ _ _ _=>false) x
def hd (x:A):A:=@A.rec (fun _=>A) (fun _=>junk) (fun _=>junk) (fun _=>junk) (fun _ _=>junk) (fun _ _ _ _=>junk) (fun _ _ _=>junk) junk (fun x _ _ _=>x) x
def tl (x:A):A:=@A.rec (fun _=>A) (fun _=>junk) (fun _=>junk) (fun _=>junk) (fun _ _=>junk) (fun _ _ _ _=>junk) (fun _ _ _=>junk) junk (fun _ x _ _=>x) x
def mget (k:A)(l:A)(no:R)(c:A→R):R:=@A.rec (fun _=>R) fN fN fB fI fR fG no (fun x _ _ ih=>(@Bool.rec (fun _=>R) (ih) (c (tl x)) (keq k (hd x)))) l
def mput (k v:A)(l:A):A:=@A.rec (fun _=>A) (fun _=>junk) (fun _=>junk) (fun _=>junk) (fun _ _=>junk) (fun _ _ _ _=>junk) (fun _ _ _=>junk) (.cn (.cn k v) .nl) (fun x r _ ih=>(@Bool.rec (fun _=>A) (.cn x ih) (.cn (.cn k v) r) (keq k (hd x)))) l
def oLookM (kd:Nat)(m k:A)(h:H)(no:R)(c:A→R):R:=oRef m fun g b _ _=>oCk (Nat.beq (kcl k) kd) ((@Bool.rec (fun _=>R) (oCk (Nat.beq g (nat_lit 2)) (oMap h b fun kt es=>oCk (Nat.beq kt kd) (mget k es no c))) (no) (Nat.beq g (nat_lit 5))))
def oLook (kd:Nat)(z m k:A)(h:H)(c:A→R):R:=oLookM kd m k h (c z) c
def pr (v:A)(b:Bool):A:=.nd (nat_lit 1) (.cn v (.cn (.bool b) .nl))
def oLookK (kd:Nat)(z m k:A)(h:H)(c:A→R):R:=oLookM kd m k h (c (pr z false)) fun v=>c (pr v true)
def oMUp (kd:Nat)(m k v:A)(h:H)(c:H→R):R:=oRef m fun g b _ _=>oCk (Nat.beq g (nat_lit 2)) (oCk (Nat.beq (kcl k) kd) (oMap h b fun kt es=>oCk (Nat.beq kt kd) (hput h b (.mp kt (mput k v es)) c)))
def oMLen (m:A)(h:H)(c:A→R):R:=oRef m fun g b _ _=>(@Bool.rec (fun _=>R) (oCk (Nat.beq g (nat_lit 2)) (oMap h b fun _ es=>c (.int (Nat.add (nat_lit 9223372036854775808) (llen es))))) (c (.int (nat_lit 9223372036854775808))) (Nat.beq g (nat_lit 5)))
def oMkM (kt:Nat)(h:H)(c:A→H→R):R:=hnew h (.mp kt .nl) fun b h=>c (.ref (nat_lit 2) b (nat_lit 0) (nat_lit 0)) h
def rThen (f:A→H→R)(r:R):R:=@R.rec (fun _=>R) .bad (fun e vs h=>(@Bool.rec (fun _=>R) (.go e vs h) (f vs h) (Nat.beq e (nat_lit 0)))) r
def rBlk (i:Nat)(r:R):R:=@R.rec (fun _=>R) .bad (fun e vs h=>(@Bool.rec (fun _=>R) (.go e vs h) (.go (nat_lit 0) vs h) (Nat.beq e i))) r
def rCall (f:A→H→R)(r:R):R:=@R.rec (fun _=>R) .bad (fun e vs h=>oCk (Nat.beq e (nat_lit 1)) (oCn vs fun v _=>f v h)) r
def cLoop (a:A→H→R)(n:Nat):A→H→R:=@Nat.rec (fun _=>A→H→R) (fun _ _=>.bad) (fun _ ih vs h=>rThen ih (a vs h)) n
abbrev K:=Nat→A→H→R
def oCall (k:K)(f:Nat)(args:A)(h:H)(c:A→H→R):R:=rCall c (k f args h)
def flat (x:A):Bool:=@A.rec (fun _=>Bool) (fun _=>true) (fun _=>true) (fun _=>true) (fun _ _=>true) (fun g _ _ _=>(@Bool.rec (fun _=>Bool) (false) (Nat.ble g (nat_lit 9)) (Nat.ble (nat_lit 3) g))) (fun _ _ ih=>ih) true (fun _ _ i j=>(@Bool.rec (fun _=>Bool) (false) (j) (i))) x
def oCallP (k:K)(f:Nat)(args:A)(h:H)(c:A→H→R):R:=oH h fun t nx ro=>rCall (fun v _=>oCk (flat v) (c v h)) (k f args (.mk t nx nx))
def oCallN (k:K)(f:Nat)(args:A)(h:H)(c:A→H→R):R:=oH h fun t nx ro=>rCall (fun v h=>oH h fun t nx _=>c v (.mk t nx ro)) (k f args (.mk t nx nx))
def oCallV (k:K)(f:A)(args:A)(h:H)(c:A→H→R):R:=oNd f fun g cs=>oCk (Nat.ble (nat_lit 100) g) (rCall c (k (Nat.sub g (nat_lit 100)) (lapp args cs) h))
end
end Go.X1

namespace Go.X1
noncomputable section
def digs (f:Nat):Nat→Nat→Nat→(Nat→Nat→R)→R:=@Nat.rec (fun _=>Nat→Nat→Nat→(Nat→Nat→R)→R) (fun _ _ _ _=>.bad) (fun _ ih m n N c=>(@Bool.rec (fun _=>R) (ih (Nat.div m (nat_lit 10)) (Nat.succ n) (Nat.add (Nat.mul (nat_lit 256) N) (Nat.add (nat_lit 48) (Nat.mod m (nat_lit 10)))) c) (c (Nat.succ n) (Nat.add (Nat.mul (nat_lit 256) N) (Nat.add (nat_lit 48) m))) (Nat.blt m (nat_lit 10)))) f
def ret1 (v:A)(h:H):R:=.go (nat_lit 1) (.cn v .nl) h
def itoaC (n:Nat)(h:H):R:=oCk (Nat.ble n (nat_lit 18446744073709551615)) ((@Bool.rec (fun _=>R) (digs (nat_lit 30) (Nat.sub (nat_lit 9223372036854775808) n) (nat_lit 0) (nat_lit 0) fun n N=>ret1 (.str (Nat.succ n) (Nat.add (nat_lit 45) (Nat.mul (nat_lit 256) N))) h) (digs (nat_lit 30) (Nat.sub n (nat_lit 9223372036854775808)) (nat_lit 0) (nat_lit 0) fun n N=>ret1 (.str n N) h) (Nat.ble (nat_lit 9223372036854775808) n)))
def fItoa (_:K)(args:A)(h:H):R:=oCn args fun x t=>oEnd t (oIntE x (fun n=>itoaC n h) fun g b u i=>(@Bool.rec (fun _=>R) (oSy g b u i fun _ i=>ret1 (.nd (nat_lit 2) (.cn (.ref (nat_lit 8) (nat_lit 4) (nat_lit 0) i) .nl)) h) (oCk (Nat.beq g (nat_lit 8)) (ret1 (.nd (nat_lit 2) (.cn (.ref (nat_lit 8) (nat_lit 5) u i) .nl)) h)) (Nat.beq b (nat_lit 10))))
def dget (l:List (Nat×Nat))(i:Nat)(k:Nat→R):R:=@List.rec (Nat×Nat) (fun _=>R) .bad (fun p _ ih=>(@Bool.rec (fun _=>R) (ih) (k p.2) (Nat.beq p.1 i))) l
def digL (i:Nat)(d:Nat):Nat→A:=@Nat.rec (fun _=>Nat→A) (fun _=>.nl) (fun _ ih j=>.cn (.ref (nat_lit 8) (nat_lit 3) j i) (ih (Nat.succ j))) d
def fItoaD (dt:List (Nat×Nat))(_:K)(args:A)(h:H):R:=oCn args fun x t=>oEnd t (oIntE x (fun n=>itoaC n h) fun g b u i=>oSy g b u i fun _ i=>dget dt i fun d=>ret1 (.nd (nat_lit 2) (digL i d (nat_lit 0))) h)
def dlook (l:List (Nat×Nat))(i:Nat):Nat:=@List.rec (Nat×Nat) (fun _=>Nat) (nat_lit 0) (fun p _ ih=>(@Bool.rec (fun _=>Nat) (ih) (p.2) (Nat.beq p.1 i))) l
def expP (dt:List (Nat×Nat))(l:A):A:=@A.rec (fun _=>A) (fun _=>.int (nat_lit 0)) (fun _=>.int (nat_lit 0)) (fun _=>.int (nat_lit 0)) (fun _ _=>.int (nat_lit 0)) (fun _ _ _ _=>.int (nat_lit 0)) (fun _ _ _=>.int (nat_lit 0)) .nl (fun x _ _ ih=>@A.rec (fun _=>A) (fun _=>.cn x ih) (fun _=>.cn x ih) (fun _=>.cn x ih) (fun _ _=>.cn x ih) (fun g b o i=>(@Bool.rec (fun _=>A) (.cn x ih) ((@Bool.rec (fun _=>A) (.cn x ih) ((@Bool.rec (fun _=>A) (.int (nat_lit 0)) ((@Bool.rec (fun _=>A) (lapp (digL i (dlook dt i) (nat_lit 0)) ih) (.int (nat_lit 0)) (Nat.beq (dlook dt i) (nat_lit 0)))) (Nat.beq o (nat_lit 0)))) (Nat.beq b (nat_lit 4)))) (Nat.beq g (nat_lit 8)))) (fun _ _ _=>.cn x ih) (.cn x ih) (fun _ _ _ _=>.cn x ih) x) l
def fAt (l:List (Nat×A))(_:K)(args:A)(h:H):R:=oCn args fun x t=>oCn t fun y t=>oEnd t (oRef x fun g b _ _=>oCk (Nat.beq g (nat_lit 8)) (oCk (Nat.beq b (nat_lit 7)) (oInt y fun j=>@List.rec (Nat×A) (fun _=>R) .bad (fun p _ ih=>(@Bool.rec (fun _=>R) (ih) (ret1 p.2 h) (Nat.beq (Nat.add (nat_lit 9223372036854775808) p.1) j))) l)))
def eqTA (t:T A):T A→Bool:=@T.rec A (fun _=>T A→Bool) (fun u=>@T.rec A (fun _=>Bool) true (fun _ _ _ _ _=>false) u) (fun x _ _ gl gr u=>@T.rec A (fun _=>Bool) false (fun y l r _ _=>(@Bool.rec (fun _=>Bool) (false) ((@Bool.rec (fun _=>Bool) (false) (gr r) (gl l))) (eqA x y))) u) t
def eqBB (x y:B):Bool:=@B.rec (fun _=>Bool) (@B.rec (fun _=>Bool) true (fun _ _ _=>false) (fun _ _=>false) y) (fun n lo t=>@B.rec (fun _=>Bool) false (fun m l u=>(@Bool.rec (fun _=>Bool) (false) ((@Bool.rec (fun _=>Bool) (false) (eqTA t u) (Nat.beq lo l))) (Nat.beq n m))) (fun _ _=>false) y) (fun k es=>@B.rec (fun _=>Bool) false (fun _ _ _=>false) (fun m l=>(@Bool.rec (fun _=>Bool) (false) (eqA es l) (Nat.beq k m))) y) x
def eqTB (t:T B):T B→Bool:=@T.rec B (fun _=>T B→Bool) (fun u=>@T.rec B (fun _=>Bool) true (fun _ _ _ _ _=>false) u) (fun x _ _ gl gr u=>@T.rec B (fun _=>Bool) false (fun y l r _ _=>(@Bool.rec (fun _=>Bool) (false) ((@Bool.rec (fun _=>Bool) (false) (gr r) (gl l))) (eqBB x y))) u) t
def eqHH (x y:H):Bool:=@H.rec (fun _=>Bool) (fun t n _=>@H.rec (fun _=>Bool) (fun u m _=>(@Bool.rec (fun _=>Bool) (false) (eqTB t u) (Nat.beq n m))) y) x
structure Known where
  a:A
  h:H
  x:A
def fRun (l:List Known)(F:K→A→H→R)(k:K)(a:A)(h:H):R:=@List.rec Known (fun _=>R) (F k a h) (fun p _ ih=>(@Bool.rec (fun _=>R) (ih) ((@Bool.rec (fun _=>R) (ih) (ret1 p.x h) (eqHH h p.h))) (eqA a p.a))) l
structure KnownT where
  v:A
  g:Nat
  n:Nat
  m:Nat
  t:T A
  x:A
def blkB (h:H)(b:Nat):B:=@H.rec (fun _=>B) (fun t _ _=>tget .no t b) h
def fText (l:List KnownT)(F:K→A→H→R)(k:K)(a:A)(h:H):R:=@List.rec KnownT (fun _=>R) (F k a h) (fun p _ ih=>@A.rec (fun _=>R) (fun _=>ih) (fun _=>ih) (fun _=>ih) (fun _ _=>ih) (fun _ _ _ _=>ih) (fun _ _ _=>ih) ih (fun v r _ _=>(@Bool.rec (fun _=>R) (ih) (@A.rec (fun _=>R) (fun _=>ih) (fun _=>ih) (fun _=>ih) (fun _ _=>ih) (fun _ _ _ _=>ih) (fun _ _ _=>ih) ih (fun s e _ _=>@A.rec (fun _=>R) (fun _=>ih) (fun _=>ih) (fun _=>ih) (fun _ _=>ih) (fun g b o n=>(@Bool.rec (fun _=>R) (ih) ((@Bool.rec (fun _=>R) (ih) ((@Bool.rec (fun _=>R) (ih) ((@Bool.rec (fun _=>R) ((@Bool.rec (fun _=>R) (ih) ((@Bool.rec (fun _=>R) (ih) (ret1 p.x h) (eqBB (blkB h b) (.cs p.m (nat_lit 0) p.t)))) (Nat.beq o (nat_lit 0)))) (ret1 p.x h) (Nat.beq g (nat_lit 3)))) (Nat.beq n p.n))) (Nat.beq g p.g))) (eqA e .nl))) (fun _ _ _=>ih) ih (fun _ _ _ _=>ih) s) r) (eqA v p.v))) a) l
def undig (f:Nat):Nat→Nat→(Nat→R)→R→R:=@Nat.rec (fun _=>Nat→Nat→(Nat→R)→R→R) (fun _ a c _=>c a) (fun _ ih N a c no=>(@Bool.rec (fun _=>R) (no) ((@Bool.rec (fun _=>R) (no) (ih (Nat.div N (nat_lit 256)) (Nat.add (Nat.mul (nat_lit 10) a) (Nat.sub (Nat.mod N (nat_lit 256)) (nat_lit 48))) c no) (Nat.ble (Nat.mod N (nat_lit 256)) (nat_lit 57)))) (Nat.ble (nat_lit 48) (Nat.mod N (nat_lit 256))))) f
def atoiR (v e:A)(h:H):R:=ret1 (.nd (nat_lit 1) (.cn v (.cn e .nl))) h
def atoiE (h:H):R:=atoiR (.int (nat_lit 9223372036854775808)) (.ref (nat_lit 7) (nat_lit 0) (nat_lit 0) (nat_lit 0)) h
def fAtoi (_:K)(args:A)(h:H):R:=oCn args fun x t=>oEnd t (oStr x fun n N=>oCk (Nat.ble n (nat_lit 18)) ((@Bool.rec (fun _=>R) ((@Bool.rec (fun _=>R) ((@Bool.rec (fun _=>R) (undig n N (nat_lit 0) (fun m=>atoiR (.int (Nat.add (nat_lit 9223372036854775808) m)) (.ref (nat_lit 6) (nat_lit 0) (nat_lit 0) (nat_lit 0)) h) (atoiE h)) ((@Bool.rec (fun _=>R) (undig (Nat.sub n (nat_lit 1)) (Nat.div N (nat_lit 256)) (nat_lit 0) (fun m=>atoiR (.int (Nat.sub (nat_lit 9223372036854775808) m)) (.ref (nat_lit 6) (nat_lit 0) (nat_lit 0) (nat_lit 0)) h) (atoiE h)) (atoiE h) (Nat.beq n (nat_lit 1)))) (Nat.beq (Nat.mod N (nat_lit 256)) (nat_lit 45)))) ((@Bool.rec (fun _=>R) (.bad) (atoiE h) (Nat.beq n (nat_lit 1)))) (Nat.beq (Nat.mod N (nat_lit 256)) (nat_lit 43)))) (atoiE h) (Nat.beq n (nat_lit 0)))))
def joinL (l:A):Nat→Nat→Nat→Nat→(Nat→Nat→R)→R:=@A.rec (fun _=>Nat→Nat→Nat→Nat→(Nat→Nat→R)→R) (fun _ _ _ _ _ _=>.bad) (fun _ _ _ _ _ _=>.bad) (fun _ _ _ _ _ _=>.bad) (fun _ _ _ _ _ _ _=>.bad) (fun _ _ _ _ _ _ _ _ _=>.bad) (fun _ _ _ _ _ _ _ _=>.bad) (fun _ _ n N c=>c n N) (fun x _ _ ih m M n N c=>oStr x fun p P=>ih m M (Nat.add n (Nat.add m p)) (Nat.add N (Nat.mul (Nat.add M (Nat.mul P (Nat.pow (nat_lit 2) (Nat.mul (nat_lit 8) m)))) (Nat.pow (nat_lit 2) (Nat.mul (nat_lit 8) n)))) c) l
def fJoin (_:K)(args:A)(h:H):R:=oCn args fun s r=>oCn r fun sep t=>oEnd t (oStr sep fun m M=>oCells (nat_lit 1) s h fun n l=>oCk (Nat.ble n (nat_lit 1000000)) (@A.rec (fun _=>R) fN fN fB fI fR fG (ret1 (.str (nat_lit 0) (nat_lit 0)) h) (fun x r _ _=>oStr x fun n N=>joinL r m M n N fun n N=>mkS n N fun v=>ret1 v h) l))
def isT (r:R):Bool:=@R.rec (fun _=>Bool) false (fun e vs _=>@Bool.rec (fun _=>Bool) false (@A.rec (fun _=>Bool) (fun _=>false) (fun _=>false) (fun _=>false) (fun _ _=>false) (fun _ _ _ _=>false) (fun _ _ _=>false) false (fun x _ _ _=>@A.rec (fun _=>Bool) (fun _=>false) (fun _=>false) (fun b=>b) (fun _ _=>false) (fun _ _ _ _=>false) (fun _ _ _=>false) false (fun _ _ _ _=>false) x) vs) (Nat.beq e (nat_lit 1))) r
def dropT (lo M:Nat)(t:T B):Nat→Nat→T B:=@T.rec B (fun _=>Nat→Nat→T B) (fun _ _=>.lf) (fun x _ _ gl gr a b=>.nd (@Bool.rec (fun _=>B) (@Bool.rec (fun _=>B) .no x (Nat.beq (Nat.land (Nat.shiftRight M b) (nat_lit 1)) (nat_lit 1))) x (Nat.blt b lo)) (gl (Nat.mul (nat_lit 2) a) (Nat.add a b)) (gr (Nat.mul (nat_lit 2) a) (Nat.add (Nat.mul (nat_lit 2) a) b))) t
def dropH (lo M:Nat)(h:H):H:=@H.rec (fun _=>H) (fun t nx ro=>.mk (dropT lo M t (nat_lit 1) (nat_lit 0)) nx ro) h
def gcF (M:Nat)(F:K→A→H→R)(k:K)(a:A)(h:H):R:=oH h fun _ nx _=>@R.rec (fun _=>R) .bad (fun e vs h'=>.go e vs (dropH nx M h')) (F k a h)
def isRes (y:A)(r:R):Bool:=@R.rec (fun _=>Bool) false (fun e vs _=>(@Bool.rec (fun _=>Bool) (false) (eqA (hd vs) y) (Nat.beq e (nat_lit 1)))) r
end
end Go.X1
