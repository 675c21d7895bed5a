
import Derived.Test.YtllbdfllngpkaaaGreatLibD
import Derived.Test.YtllbdfllngpkaaaGreatLibE
set_option linter.all false
namespace Go.Abs
set_option linter.unusedVariables false
def K6 (av:LI)(a:Int)(b:MI):Option (LI×(Option MI)):=
 if(mget b a)=0 then
  chk ((av.length+([a]:LI).length) * 8<=140737488355328)<|
  some ((av++([a]:LI)),(some (mput b a 1)))
 else
  some (av,(some b))
def K5 (av:LI)(bv:Option MI)(a:Int):Option (LI×(Option MI)):=
 if bv=none then
  K6 av a ([]:MI)
 else
  bnd (bv) fun b=>
  K6 av a b
def aZ (c:PC)(d:LI)(e:Option MI)(db:(Int×MI)->Option (MI×LI×(Option MI)))(a:Int)(cw:MI):Option (MI×LI×(Option MI)):=
 if a<(c.params.length:Int)then
  bnd (nth c.params a) fun b=>
  chk (I64 ((mget cw b)-1))<|
  chk (I64 (a+1))<|
  db ((a+1),(mput cw b ((mget cw b)-1)))
 else
  some (cw,d,e)
def nZ (c:PC)(a:LI)(b:Option MI)(e:(Int×MI)->Option (MI×LI×(Option MI)))(v:Int×MI):Option (MI×LI×(Option MI)):=
 match v with
 |(d,cw)=>aZ c a b e d cw
def aY (z7:PC->MI->LI->Option MI->Option (MI×LI×(Option MI)))(c:PC)(f:(Int×MI×LI×(Option MI))->Option (MI×LI×(Option MI)))(a:Int)(cy:MI)(d:LI)(e:Option MI):Option (MI×LI×(Option MI)):=
 if a<(c.kids.length:Int)then
  bnd (nth c.kids a) fun g=>
  bnd (z7 g cy d e) fun b=>
  chk (I64 (a+1))<|
  f ((a+1),b.1,b.2.1,b.2.2)
 else
  itr (nZ c d e) LF (0,cy)
def nY (z7:PC->MI->LI->Option MI->Option (MI×LI×(Option MI)))(c:PC)(e:(Int×MI×LI×(Option MI))->Option (MI×LI×(Option MI)))(v:Int×MI×LI×(Option MI)):Option (MI×LI×(Option MI)):=
 match v with
 |(a,cy,b,d)=>aY z7 c e a cy b d
def aX (z7:PC->MI->LI->Option MI->Option (MI×LI×(Option MI)))(c:PC)(e:LI)(f:Option MI)(d:(Int×MI)->Option (MI×LI×(Option MI)))(b:Int)(cl:MI):Option (MI×LI×(Option MI)):=
 if b<(c.params.length:Int)then
  bnd (nth c.params b) fun a=>
  chk (I64 ((mget cl a)+1))<|
  chk (I64 (b+1))<|
  d ((b+1),(mput cl a ((mget cl a)+1)))
 else
  itr (nY z7 c) LF (0,cl,e,f)
def tT (z7:PC->MI->LI->Option MI->Option (MI×LI×(Option MI)))(c:PC)(a:LI)(b:Option MI)(d:(Int×MI)->Option (MI×LI×(Option MI)))(v:Int×MI):Option (MI×LI×(Option MI)):=
 match v with
 |(e,cl)=>aX z7 c a b d e cl
def cR (z7:PC->MI->LI->Option MI->Option (MI×LI×(Option MI)))(c:PC)(ax:MI)(a:LI)(b:Option MI):Option (MI×LI×(Option MI)):=
 itr (tT z7 c a b) LF (0,ax)
def aW (z7:PC->MI->LI->Option MI->Option (MI×LI×(Option MI)))(c:PC)(ax:MI)(av:LI)(bv:Option MI)(b:Bool):Option (MI×LI×(Option MI)):=
 if b=true then
  bnd (K5 av bv c.number) fun a=>
  cR z7 c ax a.1 a.2
 else
  cR z7 c ax av bv
def lZ (z7:PC->MI->LI->Option MI->Option (MI×LI×(Option MI)))(c:PC)(ax:MI)(av:LI)(bv:Option MI):Option (MI×LI×(Option MI)):=
 if c.kind=2 then
  aW z7 c ax av bv (decide ((mget ax c.number)=0))
 else
  if c.kind=4 then
   aW z7 c ax av bv (decide ((mget ax c.number)=0))
  else
   aW z7 c ax av bv false
def z7:Nat->PC->MI->LI->Option MI->Option (MI×LI×(Option MI))
 |0,_,_,_,_=>none
 |n+1,c,ax,av,bv=>lZ (z7 n) c ax av bv
def J9 (c:PC):Option LI:=
 bnd (z7 RF c ([]:MI) [] (none:Option MI)) fun a=>
 some a.2.1
def hU (B8:PD->PD->Option Bool)(a b:PD)(d:Int->Option Bool)(c:Int):Option Bool:=
 if c<(a.items.length:Int)then
  bnd (nth a.items c) fun e=>
  bnd (nth b.items c) fun f=>
  bnd (B8 e f) fun g=>
  if g=true then
   chk (I64 (c+1))<|
   d (c+1)
  else
   some false
 else
  some true
def kV (B8:PD->PD->Option Bool)(a b:PD)(c:Int->Option Bool)(v:Int):Option Bool:=
 match v with
 |d=>hU B8 a b c d
def dR (B8:PD->PD->Option Bool)(a b:PD):Option Bool:=
 if a.kind=b.kind then
  if a.number=b.number then
   if a.text=b.text then
    if(a.items.length:Int)=(b.items.length:Int)then
     itr (kV B8 a b) LF 0
    else
     some false
   else
    some false
  else
   some false
 else
  some false
def B8:Nat->PD->PD->Option Bool
 |0,_,_=>none
 |n+1,a,b=>dR (B8 n) a b
def mA (b:Int):Option Bool:=
 if b>=48 then
  some (decide (b<=57))
 else
  some false
def I6 (b:Int)(a:Bool):Option Bool:=
 if a=true then
  some true
 else
  if b=33 then
   some true
  else
   if b=63 then
    some true
   else
    if b=42 then
     some true
    else
     if b=60 then
      some true
     else
      if b=62 then
       some true
      else
       if b=61 then
        some true
       else
        if b=47 then
         some true
        else
         if b=43 then
          some true
         else
          if b=45 then
           some true
          else
           if b=46 then
            some true
           else
            if b=95 then
             some true
            else
             some false
def fP (b:Int):Option Bool:=
 if b>=97 then
  if b<=122 then
   I6 b true
  else
   if b>=48 then
    I6 b (decide (b<=57))
   else
    I6 b false
 else
  if b>=48 then
   I6 b (decide (b<=57))
  else
   I6 b false
def V3 (s:LB)(a:Int->Option Bool)(i3:Int):Option Bool:=
 if i3<(s.length:Int)then
  bnd (nth s i3) fun b=>
  bnd (fP (b.toNat:Int)) fun c=>
  if c=true then
   chk (I64 (i3+1))<|
   a (i3+1)
  else
   some false
 else
  some true
def nT (s:LB)(a:Int->Option Bool)(v:Int):Option Bool:=
 match v with
 |i3=>V3 s a i3
def K2 (s:LB)(a:Bool):Option Bool:=
 if a=true then
  some false
 else
  itr (nT s) LF 0
def gS (s:LB):Option Bool:=
 if(s.length:Int)<1 then
  K2 s true
 else
  if(s.length:Int)>16 then
   K2 s true
  else
   bnd (nth s 0) fun a=>
   bnd (mA (a.toNat:Int)) fun b=>
   if b=true then
    K2 s true
   else
    bnd (nth s 0) fun c=>
    if(c.toNat:Int)=45 then
     if(s.length:Int)>1 then
      bnd (nth s 1) fun d=>
      bnd (mA (d.toNat:Int)) fun e=>
      K2 s e
     else
      K2 s false
    else
     K2 s false
def O9 (s:LB)(a:Int->Option Bool)(i2:Int):Option Bool:=
 if i2<(s.length:Int)then
  bnd (nth s i2) fun b=>
  if(b.toNat:Int)<32 then
   some false
  else
   bnd (nth s i2) fun c=>
   if(c.toNat:Int)>126 then
    some false
   else
    bnd (nth s i2) fun d=>
    if(d.toNat:Int)=34 then
     some false
    else
     chk (I64 (i2+1))<|
     a (i2+1)
 else
  some true
def iM (s:LB)(a:Int->Option Bool)(v:Int):Option Bool:=
 match v with
 |i2=>O9 s a i2
def fO (s:LB):Option Bool:=
 if(s.length:Int)>20 then
  some false
 else
  itr (iM s) LF 0
def iL (kind number:Int)(text:LB)(items:Int):Option Bool:=
 if kind=0 then
  if number=0 then
   some (decide (text=([]:LB)))
  else
   some false
 else
  if kind=1 then
   if number=0 then
    if items=0 then
     bnd (gS text) fun a=>
     some a
    else
     some false
   else
    some false
  else
   if kind=2 then
    if number>=(-999999999)then
     if number<=999999999 then
      if text=([]:LB)then
       some (decide (items=0))
      else
       some false
     else
      some false
    else
     some false
   else
    if kind=3 then
     if number=0 then
      if text=([]:LB)then
       some (decide (items=0))
      else
       some false
     else
      if number=1 then
       if text=([]:LB)then
        some (decide (items=0))
       else
        some false
      else
       some false
    else
     if kind=4 then
      if number=0 then
       if items=0 then
        bnd (fO text) fun a=>
        some a
       else
        some false
      else
       some false
     else
      some false
def Y6 (G5:PD->Int->Int->Option (Bool×Int))(d:PD)(deep:Int)(c:(Int×Int)->Option (Bool×Int))(b cf:Int):Option (Bool×Int):=
 if b<(d.items.length:Int)then
  bnd (nth d.items b) fun e=>
  chk (I64 (deep+1))<|
  bnd (G5 e (deep+1) cf) fun a=>
  if a.1=true then
   chk (I64 (b+1))<|
   c ((b+1),a.2)
  else
   some (false,a.2)
 else
  some (true,cf)
def qC (G5:PD->Int->Int->Option (Bool×Int))(d:PD)(deep:Int)(a:(Int×Int)->Option (Bool×Int))(v:Int×Int):Option (Bool×Int):=
 match v with
 |(b,cf)=>Y6 G5 d deep a b cf
def iI (G5:PD->Int->Int->Option (Bool×Int))(d:PD)(deep bp:Int):Option (Bool×Int):=
 chk (I64 (bp+1))<|
 if deep>20 then
  some (false,(bp+1))
 else
  if(bp+1)>600 then
   some (false,(bp+1))
  else
   bnd (iL d.kind d.number d.text (d.items.length:Int)) fun a=>
   if a=true then
    itr (qC G5 d deep) LF (0,(bp+1))
   else
    some (false,(bp+1))
def G5:Nat->PD->Int->Int->Option (Bool×Int)
 |0,_,_,_=>none
 |n+1,d,deep,bp=>iI (G5 n) d deep bp
def lV (d:PD):Option Bool:=
 bnd (G5 RF d 1 0) fun a=>
 some a.1
def M0:Option (List LB):=
 some ([([43]:LB),([45]:LB),([42]:LB),([61]:LB),([60]:LB),([99,111,110,115]:LB),([99,97,114]:LB),([99,100,114]:LB),([110,117,108,108,63]:LB),([112,97,105,114,63]:LB),([110,117,109,98,101,114,63]:LB),([101,113,63]:LB),([110,111,116]:LB),([100,105,115,112,108,97,121]:LB)]:List LB)
def R4 (c:PC)(b:Int->Option Bool)(a:Int):Option Bool:=
 if a<(c.kids.length:Int)then
  bnd (nth c.kids a) fun d=>
  if d.kind=8 then
   some false
  else
   chk (I64 (a+1))<|
   b (a+1)
 else
  some true
def fF (c:PC)(a:Int->Option Bool)(v:Int):Option Bool:=
 match v with
 |b=>R4 c a b
def I5 (c:PC)(b:Bool):Option Bool:=
 if b=true then
  some false
 else
  if c.kind=1 then
   if(c.params.length:Int)=0 then
    if(c.kids.length:Int)=0 then
     bnd (lV c.datum) fun a=>
     some a
    else
     some false
   else
    some false
  else
   if c.kind=2 then
    if(c.params.length:Int)=0 then
     some (decide ((c.kids.length:Int)=0))
    else
     some false
   else
    if c.kind=3 then
     if(c.params.length:Int)=0 then
      if(c.kids.length:Int)=0 then
       if c.number>=0 then
        bnd (M0) fun a=>
        some (decide (c.number<(a.length:Int)))
       else
        some false
      else
       some false
     else
      some false
    else
     if c.kind=4 then
      if(c.params.length:Int)=0 then
       some (decide ((c.kids.length:Int)=1))
      else
       some false
     else
      if c.kind=5 then
       if(c.params.length:Int)<=8 then
        some (decide ((c.kids.length:Int)=1))
       else
        some false
      else
       if c.kind=6 then
        if(c.params.length:Int)=0 then
         if(c.kids.length:Int)>=1 then
          some (decide ((c.kids.length:Int)<=9))
         else
          some false
        else
         some false
       else
        if c.kind=7 then
         if(c.params.length:Int)=0 then
          some (decide ((c.kids.length:Int)=3))
         else
          some false
        else
         if c.kind=8 then
          if(c.params.length:Int)=0 then
           if(c.kids.length:Int)<2 then
            some false
           else
            if(c.kids.length:Int)>60 then
             some false
            else
             itr (fF c) LF 0
          else
           some false
         else
          if c.kind=9 then
           if(c.params.length:Int)>=1 then
            if(c.params.length:Int)<=60 then
             if(c.kids.length:Int)>=1 then
              some (decide ((c.kids.length:Int)<=60))
             else
              some false
            else
             some false
           else
            some false
          else
           if c.kind=10 then
            if(c.params.length:Int)=0 then
             some (decide ((c.kids.length:Int)=1))
            else
             some false
           else
            if c.kind=11 then
             if(c.params.length:Int)=1 then
              some (decide ((c.kids.length:Int)=1))
             else
              some false
            else
             some false
def V5 (c:PC)(a:Bool):Option Bool:=
 if a=true then
  some false
 else
  if c.number=0 then
   I5 c false
  else
   if c.kind=2 then
    I5 c false
   else
    if c.kind=3 then
     I5 c false
    else
     I5 c (!decide (c.kind=4))
def iD (c:PC):Option Bool:=
 if c.kind=1 then
  V5 c false
 else
  bnd (B8 RF c.datum (PD.mk 0 0 ([]:LB) [])) fun a=>
  V5 c (!a)
def R3 (B9:PC->Int->Int->Option (Bool×Int))(c:PC)(deep:Int)(d:(Int×Int)->Option (Bool×Int))(b cf:Int):Option (Bool×Int):=
 if b<(c.kids.length:Int)then
  bnd (nth c.kids b) fun e=>
  chk (I64 (deep+1))<|
  bnd (B9 e (deep+1) cf) fun a=>
  if a.1=true then
   chk (I64 (b+1))<|
   d ((b+1),a.2)
  else
   some (false,a.2)
 else
  some (true,cf)
def kZ (B9:PC->Int->Int->Option (Bool×Int))(c:PC)(deep:Int)(a:(Int×Int)->Option (Bool×Int))(v:Int×Int):Option (Bool×Int):=
 match v with
 |(b,cf)=>R3 B9 c deep a b cf
def dW (B9:PC->Int->Int->Option (Bool×Int))(c:PC)(deep bp:Int):Option (Bool×Int):=
 chk (I64 (bp+1))<|
 if deep>150 then
  some (false,(bp+1))
 else
  if(bp+1)>3000 then
   some (false,(bp+1))
  else
   bnd (iD c) fun a=>
   if a=true then
    itr (kZ B9 c deep) LF (0,(bp+1))
   else
    some (false,(bp+1))
def B9:Nat->PC->Int->Int->Option (Bool×Int)
 |0,_,_,_=>none
 |n+1,c,deep,bp=>dW (B9 n) c deep bp
def D2 (c:Int)(d:(Int×MI)->Option Bool)(e:LI)(f:(Int×MI)->Option Bool)(a:Int)(dk:MI):Option Bool:=
 if a<(e.length:Int)then
  bnd (nth e a) fun b=>
  if b<0 then
   some false
  else
   if b>99999 then
    some false
   else
    if(mget dk b)=1 then
     some false
    else
     chk (I64 (a+1))<|
     f ((a+1),(mput dk b 1))
 else
  chk (I64 (c+1))<|
  d ((c+1),dk)
def Q1 (b:Int)(a:(Int×MI)->Option Bool)(c:LI)(d:(Int×MI)->Option Bool)(v:Int×MI):Option Bool:=
 match v with
 |(e,dk)=>D2 b a c d e dk
def J6 (bq:List LI)(b:(Int×MI)->Option Bool)(a:Int)(seen3:MI):Option Bool:=
 if a<(bq.length:Int)then
  bnd (nth bq a) fun c=>
  itr (Q1 a b c) LF (0,seen3)
 else
  some true
def Q0 (bq:List LI)(a:(Int×MI)->Option Bool)(v:Int×MI):Option Bool:=
 match v with
 |(b,seen3)=>J6 bq a b seen3
def G9 (bq:List LI):Option Bool:=
 itr (Q0 bq) LF (0,([]:MI))
def nU (I4:PC->LI->Option LI)(c:PC)(b:(Int×LI)->Option LI)(a:Int)(az:LI):Option LI:=
 if a<(c.kids.length:Int)then
  bnd (nth c.kids a) fun d=>
  bnd (I4 d az) fun e=>
  chk (I64 (a+1))<|
  b ((a+1),e)
 else
  some az
def pX (I4:PC->LI->Option LI)(c:PC)(a:(Int×LI)->Option LI)(v:Int×LI):Option LI:=
 match v with
 |(b,az)=>nU I4 c a b az
def iB (I4:PC->LI->Option LI)(c:PC)(out:LI):Option LI:=
 chk ((out.length+c.params.length) * 8<=140737488355328)<|
 itr (pX I4 c) LF (0,(out++c.params))
def I4:Nat->PC->LI->Option LI
 |0,_,_=>none
 |n+1,c,out=>iB (I4 n) c out
def Z8 (c:PC):Option LI:=
 bnd (I4 RF c []) fun a=>
 some a
def aT (cr:MI)(c:LI)(b:Int->Option Bool)(a:Int):Option Bool:=
 if a<(c.length:Int)then
  bnd (nth c a) fun d=>
  if(mget cr d)=0 then
   some false
  else
   chk (I64 (a+1))<|
   b (a+1)
 else
  some true
def hZ (cr:MI)(b:LI)(c:Int->Option Bool)(v:Int):Option Bool:=
 match v with
 |a=>aT cr b c a
def aS (c:PC)(globals:LI)(d:(Int×MI)->Option Bool)(a:Int)(cr:MI):Option Bool:=
 if a<(globals.length:Int)then
  bnd (nth globals a) fun b=>
  chk (I64 (a+1))<|
  d ((a+1),(mput cr b 1))
 else
  bnd (J9 c) fun b=>
  itr (hZ cr b) LF 0
def nS (c:PC)(globals:LI)(a:(Int×MI)->Option Bool)(v:Int×MI):Option Bool:=
 match v with
 |(b,cr)=>aS c globals a b cr
def vZ (c:PC)(globals:LI):Option Bool:=
 bnd (B9 RF c 1 0) fun a=>
 if a.1=true then
  bnd (Z8 c) fun b=>
  bnd (G9 ([globals,b]:List LI)) fun d=>
  if d=true then
   itr (nS c globals) LF (0,([]:MI))
  else
   some false
 else
  some false
def dB (av:LI):Option LI:=
 chk (av.length * 8<=140737488355328)<|
 some av
def bT (s:LB):Option Bool:=
 bnd (gS s) fun a=>
 if a=true then
  some (decide ((s.length:Int)<=8))
 else
  some false
def lX (u:PUnit')(globals:LI):Option Bool:=
 bnd (bT u.name) fun b=>
 if b=true then
  bnd (G9 ([globals,u.globals]:List LI)) fun c=>
  if c=true then
   bnd (dB globals) fun a=>
   chk ((a.length+u.globals.length) * 8<=140737488355328)<|
   bnd (vZ u.body (a++u.globals)) fun d=>
   some d
  else
   some false
 else
  some false
def qA (b:ej):Option Bool:=
 if b.op<1 then
  some false
 else
  if b.op>20 then
   some false
  else
   if b.op=1 then
    if b.a=0 then
     bnd (lV b.d) fun c=>
     some c
    else
     some false
   else
    bnd (B8 RF b.d (PD.mk 0 0 ([]:LB) [])) fun c=>
    if c=true then
     if b.a<0 then
      some false
     else
      if b.a>4000 then
       some false
      else
       if b.a=0 then
        some true
       else
        if b.op=14 then
         some false
        else
         some (!decide (b.op=17))
    else
     some false
def aG (m:eo)(k:Int)(b:ej)(d:Bool):Option Bool:=
 if d=true then
  if b.a<k then
   bnd (nth m.codes b.a) fun c=>
   some (decide (c.params=0))
  else
   some false
 else
  if b.op=19 then
   if b.a<k then
    bnd (nth m.codes b.a) fun c=>
    some (decide (c.params=1))
   else
    some false
  else
   if b.op=12 then
    some (decide (b.a<=8))
   else
    if b.op=13 then
     some (decide (b.a<=8))
    else
     some true
def iK (m:eo)(c:ek)(k:Int)(b:ej):Option Bool:=
 if b.op=2 then
  bnd (M0) fun d=>
  some (decide (b.a<(d.length:Int)))
 else
  if b.op=3 then
   some (decide (b.a<c.slots))
  else
   if b.op=5 then
    some (decide (b.a<c.slots))
   else
    if b.op=7 then
     some (decide (b.a<c.slots))
    else
     if b.op=9 then
      if b.a>=c.params then
       some (decide (b.a<c.slots))
      else
       some false
     else
      if b.op=10 then
       some (decide (b.a<c.params))
      else
       if b.op=4 then
        some (decide (b.a<c.captures))
       else
        if b.op=6 then
         some (decide (b.a<c.captures))
        else
         if b.op=8 then
          some (decide (b.a<c.captures))
         else
          if b.op=11 then
           some (decide (b.a<k))
          else
           if b.op=18 then
            aG m k b true
           else
            aG m k b (decide (b.op=20))
def aV (m:eo)(k:Int)(b:ek)(c:Int->Option Bool)(a:Int):Option Bool:=
 if a<(b.instrs.length:Int)then
  bnd (nth b.instrs a) fun d=>
  bnd (qA d) fun e=>
  if e=true then
   bnd (iK m b k d) fun f=>
   if f=true then
    chk (I64 (a+1))<|
    c (a+1)
   else
    some false
  else
   some false
 else
  some true
def tS (m:eo)(k:Int)(a:ek)(b:Int->Option Bool)(v:Int):Option Bool:=
 match v with
 |c=>aV m k a b c
def wE (m:eo)(k:Int):Option Bool:=
 bnd (nth m.codes k) fun a=>
 if a.params<0 then
  some false
 else
  if a.params>8 then
   some false
  else
   if a.slots<a.params then
    some false
   else
    if a.slots>500 then
     some false
    else
     if a.captures<0 then
      some false
     else
      if a.captures>500 then
       some false
      else
       if(a.instrs.length:Int)<1 then
        some false
       else
        if(a.instrs.length:Int)>4000 then
         some false
        else
         itr (tS m k a) LF 0
def wG (m:eo)(b:ej):Option (Int×Int):=
 if b.op=1 then
  some (0,1)
 else
  if b.op=2 then
   some (0,1)
  else
   if b.op=3 then
    some (0,1)
   else
    if b.op=4 then
     some (0,1)
    else
     if b.op=5 then
      some (0,1)
     else
      if b.op=6 then
       some (0,1)
      else
       if b.op=7 then
        some (1,1)
       else
        if b.op=8 then
         some (1,1)
        else
         if b.op=11 then
          bnd (nth m.codes b.a) fun c=>
          some (c.captures,1)
         else
          if b.op=18 then
           bnd (nth m.codes b.a) fun c=>
           some (c.captures,1)
          else
           if b.op=19 then
            bnd (nth m.codes b.a) fun c=>
            some (c.captures,1)
           else
            if b.op=20 then
             bnd (nth m.codes b.a) fun c=>
             some (c.captures,1)
            else
             if b.op=12 then
              chk (I64 (b.a+1))<|
              some ((b.a+1),1)
             else
              if b.op=13 then
               chk (I64 (b.a+1))<|
               some ((b.a+1),0)
              else
               if b.op=14 then
                some (1,0)
               else
                if b.op=17 then
                 some (1,0)
                else
                 if b.op=16 then
                  some (1,0)
                 else
                  some (0,0)
def P9 (a:Int)(bg:(Int×LI)->Option (LI×Bool))(cu:LI):Option (LI×Bool):=
 chk (I64 (a+1))<|
 bg ((a+1),cu)
def U6 (a:Int×Int)(d b:Int)(cj:LI)(db:(Int×LI)->Option (LI×Bool))(c:Int)(e:Bool):Option (LI×Bool):=
 if e=true then
  some ([],false)
 else
  bnd (nth cj c) fun f=>
  chk (I64 (b+1))<|
  db ((b+1),(cj.set c.toNat ((d-a.1)+a.2)))
def V8 (h:ek)(e:Int)(bg:(Int×LI)->Option (LI×Bool))(b:Int×Int)(d:Int)(bz:LI)(db:(Int×LI)->Option (LI×Bool))(c:Int)(cj:LI):Option (LI×Bool):=
 if c<(bz.length:Int)then
  bnd (nth bz c) fun a=>
  if a<=e then
   U6 b d c cj db a true
  else
   if a>=(h.instrs.length:Int)then
    U6 b d c cj db a true
   else
    bnd (nth cj a) fun f=>
    if f>=0 then
     bnd (nth cj a) fun g=>
     U6 b d c cj db a (!decide (g=((d-b.1)+b.2)))
    else
     U6 b d c cj db a false
 else
  P9 e bg cj
def gM (d:ek)(e:Int)(bg:(Int×LI)->Option (LI×Bool))(a:Int×Int)(b:Int)(bz:LI)(f:(Int×LI)->Option (LI×Bool))(v:Int×LI):Option (LI×Bool):=
 match v with
 |(c,cj)=>V8 d e bg a b bz f c cj
def N7 (c:ek)(d:Int)(ca:LI)(bg:(Int×LI)->Option (LI×Bool))(a:Int×Int)(b:Int)(bz:LI):Option (LI×Bool):=
 itr (gM c d bg a b bz) LF (0,ca)
def bS (f:ek)(c:Int)(ca:LI)(bg:(Int×LI)->Option (LI×Bool))(e:ej)(b:Int×Int)(d:Int)(g:Bool):Option (LI×Bool):=
 if g=true then
  if((d-b.1)+b.2)=0 then
   N7 f c ca bg b d []
  else
   some ([],false)
 else
  if e.op=15 then
   N7 f c ca bg b d ([e.a]:LI)
  else
   if e.op=16 then
    chk (I64 (c+1))<|
    N7 f c ca bg b d ([(c+1),e.a]:LI)
   else
    chk (I64 (c+1))<|
    N7 f c ca bg b d ([(c+1)]:LI)
def V7 (m:eo)(e:ek)(bg:(Int×LI)->Option (LI×Bool))(b:Int)(ca:LI):Option (LI×Bool):=
 if b<(e.instrs.length:Int)then
  bnd (nth e.instrs b) fun c=>
  bnd (nth ca b) fun f=>
  if f<0 then
   P9 b bg ca
  else
   bnd (wG m c) fun a=>
   bnd (nth ca b) fun g=>
   if a.1>g then
    some ([],false)
   else
    bnd (nth ca b) fun d=>
    chk (I64 (d-a.1))<|
    chk (I64 ((d-a.1)+a.2))<|
    if((d-a.1)+a.2)>500 then
     some ([],false)
    else
     if c.op=14 then
      bS e b ca bg c a d true
     else
      bS e b ca bg c a d (decide (c.op=13))
 else
  some (ca,true)
def gL (m:eo)(a:ek)(b:(Int×LI)->Option (LI×Bool))(v:Int×LI):Option (LI×Bool):=
 match v with
 |(c,ca)=>V7 m a b c ca
def V6 (m:eo)(b:ek)(c:(Int×LI)->Option (LI×Bool))(a:Int)(az:LI):Option (LI×Bool):=
 if a<((List.replicate (b.instrs.length:Int).toNat (0:Int)).length:Int)then
  bnd (nth az a) fun d=>
  chk (I64 (a+1))<|
  c ((a+1),(az.set a.toNat (-1)))
 else
  bnd (nth az 0) fun d=>
  itr (gL m b) LF (0,(az.set (0:Int).toNat 0))
def nX (m:eo)(a:ek)(b:(Int×LI)->Option (LI×Bool))(v:Int×LI):Option (LI×Bool):=
 match v with
 |(c,az)=>V6 m a b c az
def lY (m:eo)(code:Int):Option (LI×Bool):=
 bnd (nth m.codes code) fun a=>
 chk (0<=(a.instrs.length:Int)/\(8:Nat) * (a.instrs.length:Int)<=281474976710656/\(a.instrs.length:Int)<=281474976710656)<|
 itr (nX m a) LF (0,(List.replicate (a.instrs.length:Int).toNat (0:Int)))
def iJ (op:Int):Option Bool:=
 if op=11 then
  some true
 else
  if op=18 then
   some true
  else
   if op=19 then
    some true
   else
    some (decide (op=20))
def dA (a:Int)(b:(Int×LI)->Option Bool)(dc:LI):Option Bool:=
 chk (I64 (a+1))<|
 b ((a+1),dc)
def Y0 (bn g:Int)(h:(Int×Int×LI)->Option Bool)(f:ek)(d:(Int×LI)->Option Bool)(b:Int)(cc:LI):Option Bool:=
 if b<(f.instrs.length:Int)then
  bnd (nth f.instrs b) fun c=>
  bnd (iJ c.op) fun i=>
  if i=true then
   bnd (nth cc c.a) fun e=>
   chk (I64 (e+1))<|
   bnd (nth cc c.a) fun j=>
   dA b d (cc.set c.a.toNat (e+1))
  else
   dA b d cc
 else
  chk (I64 (g+1))<|
  h ((bn+(f.instrs.length:Int)),(g+1),cc)
def kA (bn c:Int)(a:(Int×Int×LI)->Option Bool)(d:ek)(e:(Int×LI)->Option Bool)(v:Int×LI):Option Bool:=
 match v with
 |(b,cc)=>Y0 bn c a d e b cc
def Y1 (m:eo)(bn:Int)(cd:LI)(bg:Int->Option Bool)(a:Int):Option Bool:=
 if a<((cd.take ((m.codes.length:Int)-1).toNat).length:Int)then
  bnd (nth (cd.take ((m.codes.length:Int)-1).toNat) a) fun b=>
  if b=1 then
   chk (I64 (a+1))<|
   bg (a+1)
  else
   some false
 else
  some (decide (bn<=16000))
def kB (m:eo)(bn:Int)(cd:LI)(a:Int->Option Bool)(v:Int):Option Bool:=
 match v with
 |b=>Y1 m bn cd a b
def dT (m:eo)(b:(Int×Int×LI)->Option Bool)(bn a:Int)(cd:LI):Option Bool:=
 if a<(m.codes.length:Int)then
  bnd (nth m.codes a) fun c=>
  bnd (wE m a) fun d=>
  if d=true then
   bnd (lY m a) fun e=>
   if e.2=true then
    chk (I64 (bn+(c.instrs.length:Int)))<|
    itr (kA bn a b c) LF (0,cd)
   else
    some false
  else
   some false
 else
  chk (I64 ((m.codes.length:Int)-1))<|
  chk (0<=((m.codes.length:Int)-1)/\((m.codes.length:Int)-1)<=cd.length)<|
  itr (kB m bn cd) LF 0
def pW (m:eo)(a:(Int×Int×LI)->Option Bool)(v:Int×Int×LI):Option Bool:=
 match v with
 |(bn,b,cd)=>dT m a bn b cd
def pV (m:eo)(captures:Int):Option Bool:=
 if(m.codes.length:Int)<1 then
  some false
 else
  if(m.codes.length:Int)>1500 then
   some false
  else
   chk (I64 ((m.codes.length:Int)-1))<|
   if m.main=((m.codes.length:Int)-1)then
    chk (I64 ((m.codes.length:Int)-1))<|
    bnd (nth m.codes ((m.codes.length:Int)-1)) fun a=>
    if a.params=0 then
     chk (I64 ((m.codes.length:Int)-1))<|
     bnd (nth m.codes ((m.codes.length:Int)-1)) fun b=>
     if b.captures=captures then
      chk (0<=(m.codes.length:Int)/\(8:Nat) * (m.codes.length:Int)<=281474976710656/\(m.codes.length:Int)<=281474976710656)<|
      itr (pW m) LF (0,0,(List.replicate (m.codes.length:Int).toNat (0:Int)))
     else
      some false
    else
     some false
   else
    some false
def lW (o:ep):Option Bool:=
 bnd (bT o.name) fun a=>
 if a=true then
  bnd (G9 ([o.defines,o.uses]:List LI)) fun b=>
  if b=true then
   chk (I64 ((o.defines.length:Int)+(o.uses.length:Int)))<|
   bnd (pV o.image ((o.defines.length:Int)+(o.uses.length:Int))) fun c=>
   some c
  else
   some false
 else
  some false
end Go.Abs

namespace Go.Abs
set_option linter.unusedVariables false
def dC (ah:List ek)(an:Int)(aj slots ap:MI)(ai ak ab:Int)(aa:List ej)(a:Int):Option (Int×MI×Int×Int×Int×List ej×List ek×Int):=
 chk (I64 (ak+1))<|
 some (ak,(mput slots a ak),ai,(ak+1),ab,aa,ah,an)
def E8 (ah:List ek)(an:Int)(aj slots ap:MI)(ai ak ab:Int)(aa:List ej)(op a:Int):Option (MI×Int×Int×Int×List ej×List ek×Int):=
 chk ((aa.length+([(ej.mk op a (PD.mk 0 0 ([]:LB) []))]:List ej).length) * 72<=140737488355328)<|
 some (slots,ai,ak,ab,(aa++([(ej.mk op a (PD.mk 0 0 ([]:LB) []))]:List ej)),ah,an)
def dV (w8:PD->Option PD)(F8:List PD->Option (List PD))(d:PD):Option PD:=
 bnd (F8 d.items) fun a=>
 some (PD.mk d.kind d.number d.text a)
def V4 (w8:PD->Option PD)(av:List PD)(b:(Int×List PD)->Option (List PD))(a:Int)(az:List PD):Option (List PD):=
 if a<(av.length:Int)then
  bnd (nth av a) fun d=>
  bnd (w8 d) fun c=>
  chk ((az.length+([c]:List PD).length) * 56<=140737488355328)<|
  chk (I64 (a+1))<|
  b ((a+1),(az++([c]:List PD)))
 else
  some az
def nV (w8:PD->Option PD)(av:List PD)(a:(Int×List PD)->Option (List PD))(v:Int×List PD):Option (List PD):=
 match v with
 |(b,az)=>V4 w8 av a b az
def fN (w8:PD->Option PD)(F8:List PD->Option (List PD))(av:List PD):Option (List PD):=
 itr (nV w8 av) LF (0,[])
mutual
def w8:Nat->PD->Option PD
 |0,_=>none
 |n+1,d=>dV (w8 n) (F8 n) d
def F8:Nat->List PD->Option (List PD)
 |0,_=>none
 |n+1,av=>fN (w8 n) (F8 n) av
end
def V0 (ah:List ek)(an:Int)(aj slots ap:MI)(ai ak ab:Int)(aa:List ej)(b c dd:Int):Option (MI×Int×Int×Int×List ej×List ek×Int):=
 if(mhas slots b)=true then
  bnd (E8 ah an aj slots ap ai ak ab aa c (mget slots b)) fun a=>
  some (a.1,a.2.1,a.2.2.1,a.2.2.2.1,a.2.2.2.2.1,a.2.2.2.2.2.1,a.2.2.2.2.2.2)
 else
  bnd (E8 ah an aj slots ap ai ak ab aa dd (mget ap b)) fun a=>
  some (a.1,a.2.1,a.2.2.1,a.2.2.2.1,a.2.2.2.2.1,a.2.2.2.2.2.1,a.2.2.2.2.2.2)
def kX (av:LI)(b:Int)(c:Int->Option Bool)(a:Int):Option Bool:=
 if a<(av.length:Int)then
  bnd (nth av a) fun d=>
  if d=b then
   some true
  else
   chk (I64 (a+1))<|
   c (a+1)
 else
  some false
def vV (av:LI)(a:Int)(b:Int->Option Bool)(v:Int):Option Bool:=
 match v with
 |c=>kX av a b c
def lU (av:LI)(a:Int):Option Bool:=
 itr (vV av a) LF 0
def M8 (a:Int)(b:(Int×Int×List ek×Int×Int×Int×MI×List ej)->Option (Int×List ek×Int))(de:Int)(c:List ek)(d e f:Int)(g:MI)(h:List ej):Option (Int×List ek×Int):=
 chk (I64 (a+1))<|
 b ((a+1),de,c,d,e,f,g,h)
def F0 (g7:List ek->Int->MI->MI->MI->Int->Int->Int->List ej->PC->Bool->Option (MI×Int×Int×Int×List ej×List ek×Int))(aj:MI)(params:LI)(body:PC)(k:MI)(d:(Int×Int×List ek×Int×Int×Int×MI×List ej)->Option (Int×List ek×Int))(c cx:Int)(e:List ek)(f g h:Int)(i:MI)(j:List ej):Option (Int×List ek×Int):=
 if c<(params.length:Int)then
  bnd (nth params c) fun a=>
  if(mget aj a)=1 then
   bnd (E8 e cx aj i k f g h j 10 c) fun b=>
   M8 c d b.2.2.2.2.2.2 b.2.2.2.2.2.1 b.2.1 b.2.2.1 b.2.2.2.1 b.1 b.2.2.2.2.1
  else
   M8 c d cx e f g h i j
 else
  bnd (g7 e cx aj i k f g h j body true) fun a=>
  chk ((a.2.2.2.2.2.1.length+([(ek.mk a.2.1 a.2.2.1 a.2.2.2.1 a.2.2.2.2.1)]:List ek).length) * 48<=140737488355328)<|
  chk (I64 (((a.2.2.2.2.2.1++([(ek.mk a.2.1 a.2.2.1 a.2.2.2.1 a.2.2.2.2.1)]:List ek)).length:Int)-1))<|
  some ((((a.2.2.2.2.2.1++([(ek.mk a.2.1 a.2.2.1 a.2.2.2.1 a.2.2.2.2.1)]:List ek)).length:Int)-1),(a.2.2.2.2.2.1++([(ek.mk a.2.1 a.2.2.1 a.2.2.2.1 a.2.2.2.2.1)]:List ek)),a.2.2.2.2.2.2)
def M9 (g7:List ek->Int->MI->MI->MI->Int->Int->Int->List ej->PC->Bool->Option (MI×Int×Int×Int×List ej×List ek×Int))(aj:MI)(params:LI)(body:PC)(a:MI)(i:(Int×Int×List ek×Int×Int×Int×MI×List ej)->Option (Int×List ek×Int))(v:Int×Int×List ek×Int×Int×Int×MI×List ej):Option (Int×List ek×Int):=
 match v with
 |(b,cx,c,d,e,f,g,h)=>F0 g7 aj params body a i b cx c d e f g h
def K1 (g7:List ek->Int->MI->MI->MI->Int->Int->Int->List ej->PC->Bool->Option (MI×Int×Int×Int×List ej×List ek×Int))(aj:MI)(params:LI)(body:PC)(c:MI)(j:(Int×Int×List ek×Int×Int×Int×MI×List ej)->Option (Int×List ek×Int))(b da:Int)(d:List ek)(e f g:Int)(h:MI)(i:List ej):Option (Int×List ek×Int):=
 if b<(params.length:Int)then
  bnd (nth params b) fun k=>
  bnd (dC d da aj h c e f g i k) fun a=>
  chk (I64 (b+1))<|
  j ((b+1),a.2.2.2.2.2.2.2,a.2.2.2.2.2.2.1,a.2.2.1,a.2.2.2.1,a.2.2.2.2.1,a.2.1,a.2.2.2.2.2.1)
 else
  itr (M9 g7 aj params body c) LF (0,da,d,e,f,g,h,i)
def eQ (g7:List ek->Int->MI->MI->MI->Int->Int->Int->List ej->PC->Bool->Option (MI×Int×Int×Int×List ej×List ek×Int))(aj:MI)(params:LI)(body:PC)(a:MI)(i:(Int×Int×List ek×Int×Int×Int×MI×List ej)->Option (Int×List ek×Int))(v:Int×Int×List ek×Int×Int×Int×MI×List ej):Option (Int×List ek×Int):=
 match v with
 |(b,da,c,d,e,f,g,h)=>K1 g7 aj params body a i b da c d e f g h
def K0 (g7:List ek->Int->MI->MI->MI->Int->Int->Int->List ej->PC->Bool->Option (MI×Int×Int×Int×List ej×List ek×Int))(bd:List ek)(bi:Int)(aj:MI)(params ap:LI)(body:PC)(c:(Int×MI)->Option (Int×List ek×Int))(a:Int)(b:MI):Option (Int×List ek×Int):=
 if a<(ap.length:Int)then
  bnd (nth ap a) fun d=>
  chk (I64 (a+1))<|
  c ((a+1),(mput b d a))
 else
  itr (eQ g7 aj params body b) LF (0,bi,bd,(params.length:Int),0,(ap.length:Int),([]:MI),[])
def eP (g7:List ek->Int->MI->MI->MI->Int->Int->Int->List ej->PC->Bool->Option (MI×Int×Int×Int×List ej×List ek×Int))(bd:List ek)(bi:Int)(aj:MI)(params ap:LI)(body:PC)(c:(Int×MI)->Option (Int×List ek×Int))(v:Int×MI):Option (Int×List ek×Int):=
 match v with
 |(a,b)=>K0 g7 bd bi aj params ap body c a b
def aA (l7:List ek->Int->MI->LI->LI->PC->Option (Int×List ek×Int))(g7:List ek->Int->MI->MI->MI->Int->Int->Int->List ej->PC->Bool->Option (MI×Int×Int×Int×List ej×List ek×Int))(o8:List ek->Int->MI->MI->MI->Int->Int->Int->List ej->PC->Bool->Option (MI×Int×Int×Int×List ej×List ek×Int))(p8:List ek->Int->MI->MI->MI->Int->Int->Int->List ej->List PC->Bool->Option (MI×Int×Int×Int×List ej×List ek×Int))(p9:List ek->Int->MI->MI->MI->Int->Int->Int->List ej->Int->LI->PC->Option (MI×Int×Int×Int×List ej×List ek×Int))(bd:List ek)(bi:Int)(aj:MI)(params ap:LI)(body:PC):Option (Int×List ek×Int):=
 itr (eP g7 bd bi aj params ap body) LF (0,([]:MI))
def A0 (aj ap:MI)(au:Bool)(b c d e:Int)(f:List ek)(g:MI)(h:List ej):Option (MI×Int×Int×Int×List ej×List ek×Int):=
 if au=true then
  bnd (E8 f e aj g ap b c d h 14 0) fun a=>
  some (a.1,a.2.1,a.2.2.1,a.2.2.2.1,a.2.2.2.2.1,a.2.2.2.2.2.1,a.2.2.2.2.2.2)
 else
  some (g,b,c,d,h,f,e)
def D5 (g7:List ek->Int->MI->MI->MI->Int->Int->Int->List ej->PC->Bool->Option (MI×Int×Int×Int×List ej×List ek×Int))(aj ap:MI)(c:PC)(au:Bool)(df:(Int×Int×Int×Int×Int×List ek×MI×List ej)->Option (MI×Int×Int×Int×List ej×List ek×Int))(d e f g h:Int)(i:List ek)(j:MI)(k:List ej):Option (MI×Int×Int×Int×List ej×List ek×Int):=
 if d<(c.kids.length:Int)then
  bnd (nth c.kids d) fun a=>
  bnd (g7 i h aj j ap e f g k a false) fun b=>
  chk (I64 (d+1))<|
  df ((d+1),b.2.1,b.2.2.1,b.2.2.2.1,b.2.2.2.2.2.2,b.2.2.2.2.2.1,b.1,b.2.2.2.2.1)
 else
  if au=true then
   chk (I64 ((c.kids.length:Int)-1))<|
   bnd (E8 i h aj j ap e f g k 13 ((c.kids.length:Int)-1)) fun a=>
   some (a.1,a.2.1,a.2.2.1,a.2.2.2.1,a.2.2.2.2.1,a.2.2.2.2.2.1,a.2.2.2.2.2.2)
  else
   chk (I64 ((c.kids.length:Int)-1))<|
   bnd (E8 i h aj j ap e f g k 12 ((c.kids.length:Int)-1)) fun a=>
   some (a.1,a.2.1,a.2.2.1,a.2.2.2.1,a.2.2.2.2.1,a.2.2.2.2.2.1,a.2.2.2.2.2.2)
def U8 (g7:List ek->Int->MI->MI->MI->Int->Int->Int->List ej->PC->Bool->Option (MI×Int×Int×Int×List ej×List ek×Int))(aj ap:MI)(c:PC)(au:Bool)(j:(Int×Int×Int×Int×Int×List ek×MI×List ej)->Option (MI×Int×Int×Int×List ej×List ek×Int))(v:Int×Int×Int×Int×Int×List ek×MI×List ej):Option (MI×Int×Int×Int×List ej×List ek×Int):=
 match v with
 |(a,b,d,e,f,g,h,i)=>D5 g7 aj ap c au j a b d e f g h i
def J4 (p8:List ek->Int->MI->MI->MI->Int->Int->Int->List ej->List PC->Bool->Option (MI×Int×Int×Int×List ej×List ek×Int))(aj ap:MI)(c:PC)(au:Bool)(df:(Int×Int×Int×Int×Int×List ek×MI×List ej)->Option (MI×Int×Int×Int×List ej×List ek×Int))(e f g h i:Int)(j:List ek)(k:MI)(l:List ej):Option (MI×Int×Int×Int×List ej×List ek×Int):=
 if e<(c.params.length:Int)then
  bnd (nth c.params e) fun a=>
  bnd (dC j i aj k ap f g h l a) fun b=>
  bnd (E8 b.2.2.2.2.2.2.1 b.2.2.2.2.2.2.2 aj b.2.1 ap b.2.2.1 b.2.2.2.1 b.2.2.2.2.1 b.2.2.2.2.2.1 9 b.1) fun d=>
  chk (I64 (e+1))<|
  df ((e+1),d.2.1,d.2.2.1,d.2.2.2.1,d.2.2.2.2.2.2,d.2.2.2.2.2.1,d.1,d.2.2.2.2.1)
 else
  bnd (p8 j i aj k ap f g h l c.kids au) fun a=>
  some (a.1,a.2.1,a.2.2.1,a.2.2.2.1,a.2.2.2.2.1,a.2.2.2.2.2.1,a.2.2.2.2.2.2)
def U9 (p8:List ek->Int->MI->MI->MI->Int->Int->Int->List ej->List PC->Bool->Option (MI×Int×Int×Int×List ej×List ek×Int))(aj ap:MI)(c:PC)(au:Bool)(j:(Int×Int×Int×Int×Int×List ek×MI×List ej)->Option (MI×Int×Int×Int×List ej×List ek×Int))(v:Int×Int×Int×Int×Int×List ek×MI×List ej):Option (MI×Int×Int×Int×List ej×List ek×Int):=
 match v with
 |(a,b,d,e,f,g,h,i)=>J4 p8 aj ap c au j a b d e f g h i
def X2 (l7:List ek->Int->MI->LI->LI->PC->Option (Int×List ek×Int))(g7:List ek->Int->MI->MI->MI->Int->Int->Int->List ej->PC->Bool->Option (MI×Int×Int×Int×List ej×List ek×Int))(o8:List ek->Int->MI->MI->MI->Int->Int->Int->List ej->PC->Bool->Option (MI×Int×Int×Int×List ej×List ek×Int))(p8:List ek->Int->MI->MI->MI->Int->Int->Int->List ej->List PC->Bool->Option (MI×Int×Int×Int×List ej×List ek×Int))(p9:List ek->Int->MI->MI->MI->Int->Int->Int->List ej->Int->LI->PC->Option (MI×Int×Int×Int×List ej×List ek×Int))(ah:List ek)(an:Int)(aj slots ap:MI)(ai ak ab:Int)(aa:List ej)(c:PC)(au:Bool):Option (MI×Int×Int×Int×List ej×List ek×Int):=
 if c.kind=6 then
  itr (U8 g7 aj ap c au) LF (0,ai,ak,ab,an,ah,slots,aa)
 else
  if c.kind=7 then
   bnd (o8 ah an aj slots ap ai ak ab aa c au) fun a=>
   some (a.1,a.2.1,a.2.2.1,a.2.2.2.1,a.2.2.2.2.1,a.2.2.2.2.2.1,a.2.2.2.2.2.2)
  else
   if c.kind=8 then
    bnd (p8 ah an aj slots ap ai ak ab aa c.kids au) fun a=>
    some (a.1,a.2.1,a.2.2.1,a.2.2.2.1,a.2.2.2.2.1,a.2.2.2.2.2.1,a.2.2.2.2.2.2)
   else
    if c.kind=9 then
     itr (U9 p8 aj ap c au) LF (0,ai,ak,ab,an,ah,slots,aa)
    else
     if c.kind=1 then
      bnd (w8 RF c.datum) fun a=>
      chk ((aa.length+([(ej.mk 1 0 a)]:List ej).length) * 72<=140737488355328)<|
      A0 aj ap au ai ak ab an ah slots (aa++([(ej.mk 1 0 a)]:List ej))
     else
      if c.kind=3 then
       bnd (E8 ah an aj slots ap ai ak ab aa 2 c.number) fun a=>
       A0 aj ap au a.2.1 a.2.2.1 a.2.2.2.1 a.2.2.2.2.2.2 a.2.2.2.2.2.1 a.1 a.2.2.2.2.1
      else
       if c.kind=2 then
        if(mget aj c.number)=1 then
         bnd (V0 ah an aj slots ap ai ak ab aa c.number 5 6) fun a=>
         A0 aj ap au a.2.1 a.2.2.1 a.2.2.2.1 a.2.2.2.2.2.2 a.2.2.2.2.2.1 a.1 a.2.2.2.2.1
        else
         bnd (V0 ah an aj slots ap ai ak ab aa c.number 3 4) fun a=>
         A0 aj ap au a.2.1 a.2.2.1 a.2.2.2.1 a.2.2.2.2.2.2 a.2.2.2.2.2.1 a.1 a.2.2.2.2.1
       else
        if c.kind=4 then
         bnd (nth c.kids 0) fun a=>
         bnd (g7 ah an aj slots ap ai ak ab aa a false) fun b=>
         bnd (V0 b.2.2.2.2.2.1 b.2.2.2.2.2.2 aj b.1 ap b.2.1 b.2.2.1 b.2.2.2.1 b.2.2.2.2.1 c.number 7 8) fun d=>
         A0 aj ap au d.2.1 d.2.2.1 d.2.2.2.1 d.2.2.2.2.2.2 d.2.2.2.2.2.1 d.1 d.2.2.2.2.1
        else
         if c.kind=5 then
          bnd (nth c.kids 0) fun a=>
          bnd (p9 ah an aj slots ap ai ak ab aa 11 c.params a) fun b=>
          A0 aj ap au b.2.1 b.2.2.1 b.2.2.2.1 b.2.2.2.2.2.2 b.2.2.2.2.2.1 b.1 b.2.2.2.2.1
         else
          if c.kind=10 then
           bnd (nth c.kids 0) fun a=>
           bnd (p9 ah an aj slots ap ai ak ab aa 18 [] a) fun b=>
           A0 aj ap au b.2.1 b.2.2.1 b.2.2.2.1 b.2.2.2.2.2.2 b.2.2.2.2.2.1 b.1 b.2.2.2.2.1
          else
           if c.kind=11 then
            bnd (nth c.kids 0) fun a=>
            bnd (p9 ah an aj slots ap ai ak ab aa 19 c.params a) fun b=>
            A0 aj ap au b.2.1 b.2.2.1 b.2.2.2.1 b.2.2.2.2.2.2 b.2.2.2.2.2.1 b.1 b.2.2.2.2.1
           else
            A0 aj ap au ai ak ab an ah slots aa
def J3 (g7:List ek->Int->MI->MI->MI->Int->Int->Int->List ej->PC->Bool->Option (MI×Int×Int×Int×List ej×List ek×Int))(aj ap:MI)(c:PC)(au:Bool)(e f:MI×Int×Int×Int×List ej×List ek×Int)(i j k l:Int)(m:List ek)(n:MI)(b:List ej):Option (MI×Int×Int×Int×List ej×List ek×Int):=
 bnd (nth b (e.2.2.2.2.1.length:Int)) fun g=>
 bnd (nth c.kids 2) fun o=>
 bnd (g7 m l aj n ap i j k (b.set (e.2.2.2.2.1.length:Int).toNat (ej.mk g.op (b.length:Int) g.d)) o au) fun a=>
 if au=true then
  some (a.1,a.2.1,a.2.2.1,a.2.2.2.1,a.2.2.2.2.1,a.2.2.2.2.2.1,a.2.2.2.2.2.2)
 else
  bnd (nth a.2.2.2.2.1 (f.2.2.2.2.1.length:Int)) fun h=>
  some (a.1,a.2.1,a.2.2.1,a.2.2.2.1,(a.2.2.2.2.1.set (f.2.2.2.2.1.length:Int).toNat (ej.mk h.op (a.2.2.2.2.1.length:Int) h.d)),a.2.2.2.2.2.1,a.2.2.2.2.2.2)
def K4 (l7:List ek->Int->MI->LI->LI->PC->Option (Int×List ek×Int))(g7:List ek->Int->MI->MI->MI->Int->Int->Int->List ej->PC->Bool->Option (MI×Int×Int×Int×List ej×List ek×Int))(o8:List ek->Int->MI->MI->MI->Int->Int->Int->List ej->PC->Bool->Option (MI×Int×Int×Int×List ej×List ek×Int))(p8:List ek->Int->MI->MI->MI->Int->Int->Int->List ej->List PC->Bool->Option (MI×Int×Int×Int×List ej×List ek×Int))(p9:List ek->Int->MI->MI->MI->Int->Int->Int->List ej->Int->LI->PC->Option (MI×Int×Int×Int×List ej×List ek×Int))(ah:List ek)(an:Int)(aj slots ap:MI)(ai ak ab:Int)(aa:List ej)(c:PC)(au:Bool):Option (MI×Int×Int×Int×List ej×List ek×Int):=
 bnd (nth c.kids 0) fun f=>
 bnd (g7 ah an aj slots ap ai ak ab aa f false) fun b=>
 bnd (E8 b.2.2.2.2.2.1 b.2.2.2.2.2.2 aj b.1 ap b.2.1 b.2.2.1 b.2.2.2.1 b.2.2.2.2.1 16 0) fun d=>
 bnd (nth c.kids 1) fun g=>
 bnd (g7 d.2.2.2.2.2.1 d.2.2.2.2.2.2 aj d.1 ap d.2.1 d.2.2.1 d.2.2.2.1 d.2.2.2.2.1 g au) fun a=>
 if au=true then
  J3 g7 aj ap c au b a a.2.1 a.2.2.1 a.2.2.2.1 a.2.2.2.2.2.2 a.2.2.2.2.2.1 a.1 a.2.2.2.2.1
 else
  bnd (E8 a.2.2.2.2.2.1 a.2.2.2.2.2.2 aj a.1 ap a.2.1 a.2.2.1 a.2.2.2.1 a.2.2.2.2.1 15 0) fun e=>
  J3 g7 aj ap c au b a e.2.1 e.2.2.1 e.2.2.2.1 e.2.2.2.2.2.2 e.2.2.2.2.2.1 e.1 e.2.2.2.2.1
def R6 (a:Int)(df:(Int×Int×Int×Int×Int×List ek×MI×List ej)->Option (MI×Int×Int×Int×List ej×List ek×Int))(b c d e:Int)(f:List ek)(g:MI)(h:List ej):Option (MI×Int×Int×Int×List ej×List ek×Int):=
 chk (I64 (a+1))<|
 df ((a+1),b,c,d,e,f,g,h)
def R7 (aj ap:MI)(kids:List PC)(b:Int)(df:(Int×Int×Int×Int×Int×List ek×MI×List ej)->Option (MI×Int×Int×Int×List ej×List ek×Int))(c d e f:Int)(g:List ek)(h:MI)(i:List ej):Option (MI×Int×Int×Int×List ej×List ek×Int):=
 if(b+1)=(kids.length:Int)then
  R6 b df c d e f g h i
 else
  bnd (E8 g f aj h ap c d e i 17 0) fun a=>
  R6 b df a.2.1 a.2.2.1 a.2.2.2.1 a.2.2.2.2.2.2 a.2.2.2.2.2.1 a.1 a.2.2.2.2.1
def J0 (g7:List ek->Int->MI->MI->MI->Int->Int->Int->List ej->PC->Bool->Option (MI×Int×Int×Int×List ej×List ek×Int))(aj ap:MI)(kids:List PC)(au:Bool)(df:(Int×Int×Int×Int×Int×List ek×MI×List ej)->Option (MI×Int×Int×Int×List ej×List ek×Int))(b c d e f:Int)(g:List ek)(h:MI)(i:List ej):Option (MI×Int×Int×Int×List ej×List ek×Int):=
 if b<(kids.length:Int)then
  bnd (nth kids b) fun j=>
  chk (I64 (b+1))<|
  if au=true then
   bnd (g7 g f aj h ap c d e i j (decide ((b+1)=(kids.length:Int)))) fun a=>
   R7 aj ap kids b df a.2.1 a.2.2.1 a.2.2.2.1 a.2.2.2.2.2.2 a.2.2.2.2.2.1 a.1 a.2.2.2.2.1
  else
   bnd (g7 g f aj h ap c d e i j false) fun a=>
   R7 aj ap kids b df a.2.1 a.2.2.1 a.2.2.2.1 a.2.2.2.2.2.2 a.2.2.2.2.2.1 a.1 a.2.2.2.2.1
 else
  some (h,c,d,e,i,g,f)
def iG (g7:List ek->Int->MI->MI->MI->Int->Int->Int->List ej->PC->Bool->Option (MI×Int×Int×Int×List ej×List ek×Int))(aj ap:MI)(kids:List PC)(au:Bool)(i:(Int×Int×Int×Int×Int×List ek×MI×List ej)->Option (MI×Int×Int×Int×List ej×List ek×Int))(v:Int×Int×Int×Int×Int×List ek×MI×List ej):Option (MI×Int×Int×Int×List ej×List ek×Int):=
 match v with
 |(a,b,c,d,e,f,g,h)=>J0 g7 aj ap kids au i a b c d e f g h
def bY (l7:List ek->Int->MI->LI->LI->PC->Option (Int×List ek×Int))(g7:List ek->Int->MI->MI->MI->Int->Int->Int->List ej->PC->Bool->Option (MI×Int×Int×Int×List ej×List ek×Int))(o8:List ek->Int->MI->MI->MI->Int->Int->Int->List ej->PC->Bool->Option (MI×Int×Int×Int×List ej×List ek×Int))(p8:List ek->Int->MI->MI->MI->Int->Int->Int->List ej->List PC->Bool->Option (MI×Int×Int×Int×List ej×List ek×Int))(p9:List ek->Int->MI->MI->MI->Int->Int->Int->List ej->Int->LI->PC->Option (MI×Int×Int×Int×List ej×List ek×Int))(ah:List ek)(an:Int)(aj slots ap:MI)(ai ak ab:Int)(aa:List ej)(kids:List PC)(au:Bool):Option (MI×Int×Int×Int×List ej×List ek×Int):=
 itr (iG g7 aj ap kids au) LF (0,ai,ak,ab,an,ah,slots,aa)
def O7 (a:Int)(b:(Int×LI)->Option (MI×Int×Int×Int×List ej×List ek×Int))(cg:LI):Option (MI×Int×Int×Int×List ej×List ek×Int):=
 chk (I64 (a+1))<|
 b ((a+1),cg)
def N1 (l7:List ek->Int->MI->LI->LI->PC->Option (Int×List ek×Int))(aj ap:MI)(op:Int)(params:LI)(body:PC)(aw:LI)(k:(Int×Int×Int×Int×Int×List ek×MI×List ej)->Option (MI×Int×Int×Int×List ej×List ek×Int))(c d e f g:Int)(h:List ek)(i:MI)(j:List ej):Option (MI×Int×Int×Int×List ej×List ek×Int):=
 if c<(aw.length:Int)then
  bnd (nth aw c) fun b=>
  bnd (V0 h g aj i ap d e f j b 3 4) fun a=>
  chk (I64 (c+1))<|
  k ((c+1),a.2.1,a.2.2.1,a.2.2.2.1,a.2.2.2.2.2.2,a.2.2.2.2.2.1,a.1,a.2.2.2.2.1)
 else
  bnd (l7 h g aj params aw body) fun b=>
  bnd (E8 b.2.1 b.2.2 aj i ap d e f j op b.1) fun a=>
  some (a.1,a.2.1,a.2.2.1,a.2.2.2.1,a.2.2.2.2.1,a.2.2.2.2.2.1,a.2.2.2.2.2.2)
def U2 (l7:List ek->Int->MI->LI->LI->PC->Option (Int×List ek×Int))(aj ap:MI)(op:Int)(params:LI)(body:PC)(aw:LI)(i:(Int×Int×Int×Int×Int×List ek×MI×List ej)->Option (MI×Int×Int×Int×List ej×List ek×Int))(v:Int×Int×Int×Int×Int×List ek×MI×List ej):Option (MI×Int×Int×Int×List ej×List ek×Int):=
 match v with
 |(a,b,c,d,e,f,g,h)=>N1 l7 aj ap op params body aw i a b c d e f g h
def F9 (l7:List ek->Int->MI->LI->LI->PC->Option (Int×List ek×Int))(ah:List ek)(an:Int)(aj slots ap:MI)(ai ak ab:Int)(aa:List ej)(op:Int)(params:LI)(body:PC)(d:LI)(b:(Int×LI)->Option (MI×Int×Int×Int×List ej×List ek×Int))(a:Int)(aw:LI):Option (MI×Int×Int×Int×List ej×List ek×Int):=
 if a<(d.length:Int)then
  bnd (nth d a) fun c=>
  bnd (lU params c) fun e=>
  if e=true then
   O7 a b aw
  else
   chk ((aw.length+([c]:LI).length) * 8<=140737488355328)<|
   O7 a b (aw++([c]:LI))
 else
  itr (U2 l7 aj ap op params body aw) LF (0,ai,ak,ab,an,ah,slots,aa)
def gI (l7:List ek->Int->MI->LI->LI->PC->Option (Int×List ek×Int))(ah:List ek)(an:Int)(aj slots ap:MI)(ai ak ab:Int)(aa:List ej)(op:Int)(params:LI)(body:PC)(a:LI)(c:(Int×LI)->Option (MI×Int×Int×Int×List ej×List ek×Int))(v:Int×LI):Option (MI×Int×Int×Int×List ej×List ek×Int):=
 match v with
 |(b,aw)=>F9 l7 ah an aj slots ap ai ak ab aa op params body a c b aw
def bA (l7:List ek->Int->MI->LI->LI->PC->Option (Int×List ek×Int))(g7:List ek->Int->MI->MI->MI->Int->Int->Int->List ej->PC->Bool->Option (MI×Int×Int×Int×List ej×List ek×Int))(o8:List ek->Int->MI->MI->MI->Int->Int->Int->List ej->PC->Bool->Option (MI×Int×Int×Int×List ej×List ek×Int))(p8:List ek->Int->MI->MI->MI->Int->Int->Int->List ej->List PC->Bool->Option (MI×Int×Int×Int×List ej×List ek×Int))(p9:List ek->Int->MI->MI->MI->Int->Int->Int->List ej->Int->LI->PC->Option (MI×Int×Int×Int×List ej×List ek×Int))(ah:List ek)(an:Int)(aj slots ap:MI)(ai ak ab:Int)(aa:List ej)(op:Int)(params:LI)(body:PC):Option (MI×Int×Int×Int×List ej×List ek×Int):=
 bnd (J9 body) fun a=>
 itr (gI l7 ah an aj slots ap ai ak ab aa op params body a) LF (0,[])
mutual
def l7:Nat->List ek->Int->MI->LI->LI->PC->Option (Int×List ek×Int)
 |0,_,_,_,_,_,_=>none
 |n+1,bd,bi,aj,params,ap,body=>aA (l7 n) (g7 n) (o8 n) (p8 n) (p9 n) bd bi aj params ap body
def g7:Nat->List ek->Int->MI->MI->MI->Int->Int->Int->List ej->PC->Bool->Option (MI×Int×Int×Int×List ej×List ek×Int)
 |0,_,_,_,_,_,_,_,_,_,_,_=>none
 |n+1,ah,an,aj,slots,ap,ai,ak,ab,aa,c,au=>X2 (l7 n) (g7 n) (o8 n) (p8 n) (p9 n) ah an aj slots ap ai ak ab aa c au
def o8:Nat->List ek->Int->MI->MI->MI->Int->Int->Int->List ej->PC->Bool->Option (MI×Int×Int×Int×List ej×List ek×Int)
 |0,_,_,_,_,_,_,_,_,_,_,_=>none
 |n+1,ah,an,aj,slots,ap,ai,ak,ab,aa,c,au=>K4 (l7 n) (g7 n) (o8 n) (p8 n) (p9 n) ah an aj slots ap ai ak ab aa c au
def p8:Nat->List ek->Int->MI->MI->MI->Int->Int->Int->List ej->List PC->Bool->Option (MI×Int×Int×Int×List ej×List ek×Int)
 |0,_,_,_,_,_,_,_,_,_,_,_=>none
 |n+1,ah,an,aj,slots,ap,ai,ak,ab,aa,kids,au=>bY (l7 n) (g7 n) (o8 n) (p8 n) (p9 n) ah an aj slots ap ai ak ab aa kids au
def p9:Nat->List ek->Int->MI->MI->MI->Int->Int->Int->List ej->Int->LI->PC->Option (MI×Int×Int×Int×List ej×List ek×Int)
 |0,_,_,_,_,_,_,_,_,_,_,_,_=>none
 |n+1,ah,an,aj,slots,ap,ai,ak,ab,aa,op,params,body=>bA (l7 n) (g7 n) (o8 n) (p8 n) (p9 n) ah an aj slots ap ai ak ab aa op params body
end
def cT (b:Int)(c:(Int×MI)->Option MI)(d:LI)(e:(Int×MI)->Option MI)(a:Int)(ck:MI):Option MI:=
 if a<(d.length:Int)then
  bnd (nth d a) fun f=>
  chk (I64 (a+1))<|
  e ((a+1),(mput ck f 1))
 else
  chk (I64 (b+1))<|
  c ((b+1),ck)
def yO (b:Int)(a:(Int×MI)->Option MI)(c:LI)(d:(Int×MI)->Option MI)(v:Int×MI):Option MI:=
 match v with
 |(e,ck)=>cT b a c d e ck
def cS (bq:List LI)(b:(Int×MI)->Option MI)(a:Int)(co:MI):Option MI:=
 if a<(bq.length:Int)then
  bnd (nth bq a) fun c=>
  itr (yO a b c) LF (0,co)
 else
  some co
def yN (bq:List LI)(a:(Int×MI)->Option MI)(v:Int×MI):Option MI:=
 match v with
 |(b,co)=>cS bq a b co
def ag4 (bq:List LI):Option MI:=
 itr (yN bq) LF (0,([]:MI))
def Y2 (y8:PC->LI->Option MI->Option (LI×(Option MI)))(c:PC)(bg:(Int×LI×(Option MI))->Option (LI×(Option MI)))(a:Int)(d:LI)(e:Option MI):Option (LI×(Option MI)):=
 if a<(c.kids.length:Int)then
  bnd (nth c.kids a) fun f=>
  bnd (y8 f d e) fun b=>
  chk (I64 (a+1))<|
  bg ((a+1),b.1,b.2)
 else
  some (d,e)
def pY (y8:PC->LI->Option MI->Option (LI×(Option MI)))(c:PC)(a:(Int×LI×(Option MI))->Option (LI×(Option MI)))(v:Int×LI×(Option MI)):Option (LI×(Option MI)):=
 match v with
 |(b,d,e)=>Y2 y8 c a b d e
def X7 (y8:PC->LI->Option MI->Option (LI×(Option MI)))(c:PC)(a:LI)(b:Option MI):Option (LI×(Option MI)):=
 itr (pY y8 c) LF (0,a,b)
def Y3 (y8:PC->LI->Option MI->Option (LI×(Option MI)))(c:PC)(d:(Int×LI×(Option MI))->Option (LI×(Option MI)))(a:Int)(e:LI)(f:Option MI):Option (LI×(Option MI)):=
 if a<(c.params.length:Int)then
  bnd (nth c.params a) fun g=>
  bnd (K5 e f g) fun b=>
  chk (I64 (a+1))<|
  d ((a+1),b.1,b.2)
 else
  X7 y8 c e f
def pZ (y8:PC->LI->Option MI->Option (LI×(Option MI)))(c:PC)(a:(Int×LI×(Option MI))->Option (LI×(Option MI)))(v:Int×LI×(Option MI)):Option (LI×(Option MI)):=
 match v with
 |(b,d,e)=>Y3 y8 c a b d e
def iC (y8:PC->LI->Option MI->Option (LI×(Option MI)))(c:PC)(av:LI)(bv:Option MI):Option (LI×(Option MI)):=
 if c.kind=4 then
  bnd (K5 av bv c.number) fun a=>
  X7 y8 c a.1 a.2
 else
  if c.kind=9 then
   itr (pZ y8 c) LF (0,av,bv)
  else
   X7 y8 c av bv
def y8:Nat->PC->LI->Option MI->Option (LI×(Option MI))
 |0,_,_,_=>none
 |n+1,c,av,bv=>iC (y8 n) c av bv
def Z9 (c:PC):Option LI:=
 bnd (y8 RF c [] (none:Option MI)) fun a=>
 some a.1
def L8 (a:Int)(b:(Int×LI)->Option (ep×Bool))(c:LI):Option (ep×Bool):=
 chk (I64 (a+1))<|
 b ((a+1),c)
def C6 (u:PUnit')(d h:LI)(f:(Int×LI)->Option (ep×Bool))(e:Int)(a:LI):Option (ep×Bool):=
 if e<(h.length:Int)then
  bnd (nth h e) fun b=>
  bnd (lU d b) fun g=>
  if g=true then
   L8 e f a
  else
   chk ((a.length+([b]:LI).length) * 8<=140737488355328)<|
   L8 e f (a++([b]:LI))
 else
  bnd (dB d) fun b=>
  chk ((b.length+a.length) * 8<=140737488355328)<|
  bnd (lX (PUnit'.mk u.name [] u.body) (b++a)) fun g=>
  if g=true then
   bnd (Z9 u.body) fun k=>
   bnd (ag4 ([k,(b++a)]:List LI)) fun i=>
   bnd (l7 RF [] 0 i [] (b++a) u.body) fun c=>
   bnd (lW (ep.mk u.name d a (eo.mk c.2.1 c.1))) fun j=>
   if j=true then
    some ((ep.mk u.name d a (eo.mk c.2.1 c.1)),true)
   else
    some ((ep.mk ([]:LB) [] [] (eo.mk [] 0)),false)
  else
   some ((ep.mk ([]:LB) [] [] (eo.mk [] 0)),false)
def cI (u:PUnit')(a b:LI)(c:(Int×LI)->Option (ep×Bool))(v:Int×LI):Option (ep×Bool):=
 match v with
 |(d,e)=>C6 u a b c d e
def bR (u:PUnit'):Option (ep×Bool):=
 bnd (dB u.globals) fun a=>
 bnd (J9 u.body) fun b=>
 itr (cI u a b) LF (0,[])
end Go.Abs

namespace Go.Abs
set_option linter.unusedVariables false
def cQ (av:LI):Option LI:=
 chk ((([]:LI).length+av.length) * 8<=140737488355328)<|
 some (([]:LI)++av)
def lD (av:LI)(b:Int)(c:Int->Option Bool)(a:Int):Option Bool:=
 if a<(av.length:Int)then
  bnd (nth av a) fun d=>
  if d=b then
   some true
  else
   chk (I64 (a+1))<|
   c (a+1)
 else
  some false
def xC (av:LI)(a:Int)(b:Int->Option Bool)(v:Int):Option Bool:=
 match v with
 |c=>lD av a b c
def N3 (av:LI)(a:Int):Option Bool:=
 itr (xC av a) LF 0
def Q8 (ai ak ab:Int)(aa:List ej)(slots aq aj:LI)(op a:Int):Option (Int×Int×Int×Int×List ej×LI):=
 chk ((aa.length+([(ej.mk op a (PD.mk 0 0 ([]:LB) []))]:List ej).length) * 72<=140737488355328)<|
 chk (I64 (((aa++([(ej.mk op a (PD.mk 0 0 ([]:LB) []))]:List ej)).length:Int)-1))<|
 some ((((aa++([(ej.mk op a (PD.mk 0 0 ([]:LB) []))]:List ej)).length:Int)-1),ai,ak,ab,(aa++([(ej.mk op a (PD.mk 0 0 ([]:LB) []))]:List ej)),slots)
def bG (M6:PD->Option PD)(d:PD)(c:(Int×List PD)->Option PD)(a:Int)(b:List PD):Option PD:=
 if a<(d.items.length:Int)then
  bnd (nth d.items a) fun f=>
  bnd (M6 f) fun e=>
  chk ((b.length+([e]:List PD).length) * 56<=140737488355328)<|
  chk (I64 (a+1))<|
  c ((a+1),(b++([e]:List PD)))
 else
  some (PD.mk d.kind d.number d.text b)
def uM (M6:PD->Option PD)(d:PD)(a:(Int×List PD)->Option PD)(v:Int×List PD):Option PD:=
 match v with
 |(b,c)=>bG M6 d a b c
def mU (M6:PD->Option PD)(d:PD):Option PD:=
 itr (uM M6 d) LF (0,[])
def M6:Nat->PD->Option PD
 |0,_=>none
 |n+1,d=>mU (M6 n) d
def fW (av:LI)(a:Int)(b:Int->Option Int)(i3:Int):Option Int:=
 if i3>=0 then
  bnd (nth av i3) fun c=>
  if c=a then
   some i3
  else
   chk (I64 (i3-1))<|
   b (i3-1)
 else
  some (-1)
def uT (av:LI)(a:Int)(b:Int->Option Int)(v:Int):Option Int:=
 match v with
 |i3=>fW av a b i3
def kN (av:LI)(a:Int):Option Int:=
 chk (I64 ((av.length:Int)-1))<|
 itr (uT av a) LF ((av.length:Int)-1)
def eU (ai ak ab:Int)(aa:List ej)(slots aq aj:LI)(c e ap:Int):Option (Int×Int×Int×List ej×LI):=
 bnd (kN slots c) fun d=>
 if d>=0 then
  bnd (Q8 ai ak ab aa slots aq aj e d) fun a=>
  some (a.2.1,a.2.2.1,a.2.2.2.1,a.2.2.2.2.1,a.2.2.2.2.2)
 else
  bnd (kN aq c) fun a=>
  bnd (Q8 ai ak ab aa slots aq aj ap a) fun b=>
  some (b.2.1,b.2.2.1,b.2.2.2.1,b.2.2.2.2.1,b.2.2.2.2.2)
def xG (ai ak ab:Int)(aa:List ej)(slots aq aj:LI)(c:Int):Option (Int×Int×Int×List ej×LI):=
 bnd (kN slots c) fun d=>
 if d>=0 then
  bnd (Q8 ai ak ab aa slots aq aj 3 d) fun a=>
  some (a.2.1,a.2.2.1,a.2.2.2.1,a.2.2.2.2.1,a.2.2.2.2.2)
 else
  bnd (kN aq c) fun a=>
  bnd (Q8 ai ak ab aa slots aq aj 4 a) fun b=>
  some (b.2.1,b.2.2.1,b.2.2.2.1,b.2.2.2.2.1,b.2.2.2.2.2)
def fX (c:PC):Option Bool:=
 if c.kind=2 then
  some true
 else
  some (decide (c.kind=4))
def qZ (B7:PC->LI->LI->Option LI)(c:PC)(e:LI)(bg:(Int×LI)->Option LI)(a:Int)(ca:LI):Option LI:=
 if a<(c.kids.length:Int)then
  bnd (nth c.kids a) fun b=>
  bnd (B7 b (e++c.params) ca) fun d=>
  chk (I64 (a+1))<|
  bg ((a+1),d)
 else
  some ca
def uR (B7:PC->LI->LI->Option LI)(c:PC)(a:LI)(b:(Int×LI)->Option LI)(v:Int×LI):Option LI:=
 match v with
 |(d,ca)=>qZ B7 c a b d ca
def cY (B7:PC->LI->LI->Option LI)(c:PC)(ax out6:LI):Option LI:=
 bnd (cQ ax) fun a=>
 chk ((a.length+c.params.length) * 8<=140737488355328)<|
 itr (uR B7 c a) LF (0,out6)
def bL (B7:PC->LI->LI->Option LI)(c:PC)(ax out:LI)(a:Bool):Option LI:=
 if a=true then
  chk ((out.length+([c.number]:LI).length) * 8<=140737488355328)<|
  cY B7 c ax (out++([c.number]:LI))
 else
  cY B7 c ax out
def mW (B7:PC->LI->LI->Option LI)(c:PC)(ax out:LI):Option LI:=
 bnd (fX c) fun a=>
 if a=true then
  bnd (N3 ax c.number) fun b=>
  if b=true then
   bL B7 c ax out false
  else
   bnd (N3 out c.number) fun d=>
   bL B7 c ax out (!d)
 else
  bL B7 c ax out false
def B7:Nat->PC->LI->LI->Option LI
 |0,_,_,_=>none
 |n+1,c,ax,out=>mW (B7 n) c ax out
def oL (c:PC)(f:LI)(b:(Int×LI)->Option LI)(a:Int)(out8:LI):Option LI:=
 if a<(c.kids.length:Int)then
  bnd (nth c.kids a) fun d=>
  bnd (B7 RF d (f++c.params) out8) fun e=>
  chk (I64 (a+1))<|
  b ((a+1),e)
 else
  some out8
def kM (c:PC)(a:LI)(b:(Int×LI)->Option LI)(v:Int×LI):Option LI:=
 match v with
 |(d,out8)=>oL c a b d out8
def V1 (c:PC)(ax az:LI):Option LI:=
 bnd (cQ ax) fun a=>
 chk ((a.length+c.params.length) * 8<=140737488355328)<|
 itr (kM c a) LF (0,az)
def R2 (c:PC)(ax out:LI)(a:Bool):Option LI:=
 if a=true then
  chk ((out.length+([c.number]:LI).length) * 8<=140737488355328)<|
  V1 c ax (out++([c.number]:LI))
 else
  V1 c ax out
def jE (c:PC)(ax out:LI):Option LI:=
 bnd (fX c) fun a=>
 if a=true then
  bnd (N3 ax c.number) fun b=>
  if b=true then
   R2 c ax out false
  else
   bnd (N3 out c.number) fun d=>
   R2 c ax out (!d)
 else
  R2 c ax out false
def R8 (a:Int)(b:(Int×Int×Int×Int×LI×List ej)->Option (Int×List ek))(l18 l19 l20:Int)(c:LI)(d:List ej):Option (Int×List ek):=
 chk (I64 (a+1))<|
 b ((a+1),l18,l19,l20,c,d)
def J1 (n8:List ek->Int->Int->Int->List ej->LI->LI->LI->PC->Bool->Option (List ek×Int×Int×Int×List ej×LI))(codes:List ek)(params aq aj:LI)(body:PC)(d:(Int×Int×Int×Int×LI×List ej)->Option (Int×List ek))(b l12 l13 l14:Int)(e:LI)(f:List ej):Option (Int×List ek):=
 if b<(params.length:Int)then
  bnd (nth params b) fun a=>
  bnd (N3 aj a) fun g=>
  if g=true then
   bnd (Q8 l12 l13 l14 f e aq aj 10 b) fun c=>
   R8 b d c.2.1 c.2.2.1 c.2.2.2.1 c.2.2.2.2.2 c.2.2.2.2.1
  else
   R8 b d l12 l13 l14 e f
 else
  bnd (n8 codes l12 l13 l14 f e aq aj body true) fun a=>
  chk ((a.1.length+([(ek.mk a.2.1 (a.2.2.2.2.2.length:Int) a.2.2.2.1 a.2.2.2.2.1)]:List ek).length) * 48<=140737488355328)<|
  chk (I64 (((a.1++([(ek.mk a.2.1 (a.2.2.2.2.2.length:Int) a.2.2.2.1 a.2.2.2.2.1)]:List ek)).length:Int)-1))<|
  some ((((a.1++([(ek.mk a.2.1 (a.2.2.2.2.2.length:Int) a.2.2.2.1 a.2.2.2.2.1)]:List ek)).length:Int)-1),(a.1++([(ek.mk a.2.1 (a.2.2.2.2.2.length:Int) a.2.2.2.1 a.2.2.2.2.1)]:List ek)))
def X5 (n8:List ek->Int->Int->Int->List ej->LI->LI->LI->PC->Bool->Option (List ek×Int×Int×Int×List ej×LI))(codes:List ek)(params aq aj:LI)(body:PC)(d:(Int×Int×Int×Int×LI×List ej)->Option (Int×List ek))(v:Int×Int×Int×Int×LI×List ej):Option (Int×List ek):=
 match v with
 |(a,l12,l13,l14,b,c)=>J1 n8 codes params aq aj body d a l12 l13 l14 b c
def cB (r9:List ek->LI->LI->LI->PC->Option (Int×List ek))(n8:List ek->Int->Int->Int->List ej->LI->LI->LI->PC->Bool->Option (List ek×Int×Int×Int×List ej×LI))(w7:List ek->Int->Int->Int->List ej->LI->LI->LI->Int->LI->PC->Option (List ek×Int×Int×Int×List ej×LI))(I1:List ek->Int->Int->Int->List ej->LI->LI->LI->PC->Bool->Option (List ek×Int×Int×Int×List ej×LI))(codes:List ek)(params aq aj:LI)(body:PC):Option (Int×List ek):=
 bnd (cQ params) fun a=>
 itr (X5 n8 codes params aq aj body) LF (0,(params.length:Int),0,(aq.length:Int),a,[])
def F7 (aq aj:LI)(au:Bool)(b:List ek)(l16 l17 l18:Int)(c:List ej)(d:LI):Option (List ek×Int×Int×Int×List ej×LI):=
 if au=true then
  bnd (Q8 l16 l17 l18 c d aq aj 14 0) fun a=>
  some (b,a.2.1,a.2.2.1,a.2.2.2.1,a.2.2.2.2.1,a.2.2.2.2.2)
 else
  some (b,l16,l17,l18,c,d)
def Q5 (n8:List ek->Int->Int->Int->List ej->LI->LI->LI->PC->Bool->Option (List ek×Int×Int×Int×List ej×LI))(aq aj:LI)(c:PC)(au:Bool)(h:(Int×List ek×Int×Int×Int×List ej×LI)->Option (List ek×Int×Int×Int×List ej×LI))(d:Int)(e:List ek)(l17 l18 l19:Int)(f:List ej)(g:LI):Option (List ek×Int×Int×Int×List ej×LI):=
 if d<(c.kids.length:Int)then
  bnd (nth c.kids d) fun a=>
  bnd (n8 e l17 l18 l19 f g aq aj a false) fun b=>
  chk (I64 (d+1))<|
  h ((d+1),b.1,b.2.1,b.2.2.1,b.2.2.2.1,b.2.2.2.2.1,b.2.2.2.2.2)
 else
  if au=true then
   chk (I64 ((c.kids.length:Int)-1))<|
   bnd (Q8 l17 l18 l19 f g aq aj 13 ((c.kids.length:Int)-1)) fun a=>
   some (e,a.2.1,a.2.2.1,a.2.2.2.1,a.2.2.2.2.1,a.2.2.2.2.2)
  else
   chk (I64 ((c.kids.length:Int)-1))<|
   bnd (Q8 l17 l18 l19 f g aq aj 12 ((c.kids.length:Int)-1)) fun a=>
   F7 aq aj au e a.2.1 a.2.2.1 a.2.2.2.1 a.2.2.2.2.1 a.2.2.2.2.2
def fT (n8:List ek->Int->Int->Int->List ej->LI->LI->LI->PC->Bool->Option (List ek×Int×Int×Int×List ej×LI))(aq aj:LI)(c:PC)(au:Bool)(f:(Int×List ek×Int×Int×Int×List ej×LI)->Option (List ek×Int×Int×Int×List ej×LI))(v:Int×List ek×Int×Int×Int×List ej×LI):Option (List ek×Int×Int×Int×List ej×LI):=
 match v with
 |(a,b,l17,l18,l19,d,e)=>Q5 n8 aq aj c au f a b l17 l18 l19 d e
def bD (a:Int)(b:(Int×List ek×Int×Int×Int×List ej×LI)->Option (List ek×Int×Int×Int×List ej×LI))(c:List ek)(l31 l32 l33:Int)(d:List ej)(e:LI):Option (List ek×Int×Int×Int×List ej×LI):=
 chk (I64 (a+1))<|
 b ((a+1),c,l31,l32,l33,d,e)
def bE (aq aj:LI)(c:PC)(b:Int)(d:(Int×List ek×Int×Int×Int×List ej×LI)->Option (List ek×Int×Int×Int×List ej×LI))(e:List ek)(l32 l33 l34:Int)(f:List ej)(g:LI):Option (List ek×Int×Int×Int×List ej×LI):=
 if b=((c.kids.length:Int)-1)then
  bD b d e l32 l33 l34 f g
 else
  bnd (Q8 l32 l33 l34 f g aq aj 17 0) fun a=>
  bD b d e a.2.1 a.2.2.1 a.2.2.2.1 a.2.2.2.2.1 a.2.2.2.2.2
def Q7 (n8:List ek->Int->Int->Int->List ej->LI->LI->LI->PC->Bool->Option (List ek×Int×Int×Int×List ej×LI))(aq aj:LI)(c:PC)(au:Bool)(d:(Int×List ek×Int×Int×Int×List ej×LI)->Option (List ek×Int×Int×Int×List ej×LI))(b:Int)(e:List ek)(l24 l25 l26:Int)(f:List ej)(g:LI):Option (List ek×Int×Int×Int×List ej×LI):=
 if b<(c.kids.length:Int)then
  bnd (nth c.kids b) fun h=>
  chk (I64 ((c.kids.length:Int)-1))<|
  if b=((c.kids.length:Int)-1)then
   bnd (n8 e l24 l25 l26 f g aq aj h au) fun a=>
   bE aq aj c b d a.1 a.2.1 a.2.2.1 a.2.2.2.1 a.2.2.2.2.1 a.2.2.2.2.2
  else
   bnd (n8 e l24 l25 l26 f g aq aj h false) fun a=>
   bE aq aj c b d a.1 a.2.1 a.2.2.1 a.2.2.2.1 a.2.2.2.2.1 a.2.2.2.2.2
 else
  some (e,l24,l25,l26,f,g)
def kG (n8:List ek->Int->Int->Int->List ej->LI->LI->LI->PC->Bool->Option (List ek×Int×Int×Int×List ej×LI))(aq aj:LI)(c:PC)(au:Bool)(f:(Int×List ek×Int×Int×Int×List ej×LI)->Option (List ek×Int×Int×Int×List ej×LI))(v:Int×List ek×Int×Int×Int×List ej×LI):Option (List ek×Int×Int×Int×List ej×LI):=
 match v with
 |(a,b,l24,l25,l26,d,e)=>Q7 n8 aq aj c au f a b l24 l25 l26 d e
def Q6 (n8:List ek->Int->Int->Int->List ej->LI->LI->LI->PC->Bool->Option (List ek×Int×Int×Int×List ej×LI))(codes:List ek)(aq aj:LI)(c:PC)(au:Bool)(g:(Int×Int×Int×Int×List ej×LI)->Option (List ek×Int×Int×Int×List ej×LI))(d l16 l17 l18:Int)(f:List ej)(a:LI):Option (List ek×Int×Int×Int×List ej×LI):=
 if d<(c.params.length:Int)then
  bnd (nth c.params d) fun e=>
  chk ((a.length+([e]:LI).length) * 8<=140737488355328)<|
  chk (I64 (((a++([e]:LI)).length:Int)-1))<|
  bnd (Q8 l16 l17 l18 f (a++([e]:LI)) aq aj 9 (((a++([e]:LI)).length:Int)-1)) fun b=>
  chk (I64 (d+1))<|
  g ((d+1),b.2.1,b.2.2.1,b.2.2.2.1,b.2.2.2.2.1,b.2.2.2.2.2)
 else
  itr (kG n8 aq aj c au) LF (0,codes,l16,l17,l18,f,a)
def bF (n8:List ek->Int->Int->Int->List ej->LI->LI->LI->PC->Bool->Option (List ek×Int×Int×Int×List ej×LI))(codes:List ek)(aq aj:LI)(c:PC)(au:Bool)(e:(Int×Int×Int×Int×List ej×LI)->Option (List ek×Int×Int×Int×List ej×LI))(v:Int×Int×Int×Int×List ej×LI):Option (List ek×Int×Int×Int×List ej×LI):=
 match v with
 |(a,l16,l17,l18,b,d)=>Q6 n8 codes aq aj c au e a l16 l17 l18 b d
def jA (r9:List ek->LI->LI->LI->PC->Option (Int×List ek))(n8:List ek->Int->Int->Int->List ej->LI->LI->LI->PC->Bool->Option (List ek×Int×Int×Int×List ej×LI))(w7:List ek->Int->Int->Int->List ej->LI->LI->LI->Int->LI->PC->Option (List ek×Int×Int×Int×List ej×LI))(I1:List ek->Int->Int->Int->List ej->LI->LI->LI->PC->Bool->Option (List ek×Int×Int×Int×List ej×LI))(codes:List ek)(ai ak ab:Int)(aa:List ej)(slots aq aj:LI)(c:PC)(au:Bool):Option (List ek×Int×Int×Int×List ej×LI):=
 if c.kind=1 then
  bnd (Q8 ai ak ab aa slots aq aj 1 0) fun d=>
  chk (I64 ((d.2.2.2.2.1.length:Int)-1))<|
  bnd (M6 RF c.datum) fun b=>
  bnd (nth d.2.2.2.2.1 ((d.2.2.2.2.1.length:Int)-1)) fun e=>
  F7 aq aj au codes d.2.1 d.2.2.1 d.2.2.2.1 (d.2.2.2.2.1.set ((d.2.2.2.2.1.length:Int)-1).toNat (ej.mk e.op e.a b)) d.2.2.2.2.2
 else
  if c.kind=3 then
   bnd (Q8 ai ak ab aa slots aq aj 2 c.number) fun d=>
   F7 aq aj au codes d.2.1 d.2.2.1 d.2.2.2.1 d.2.2.2.2.1 d.2.2.2.2.2
  else
   if c.kind=2 then
    bnd (N3 aj c.number) fun d=>
    if d=true then
     bnd (eU ai ak ab aa slots aq aj c.number 5 6) fun b=>
     F7 aq aj au codes b.1 b.2.1 b.2.2.1 b.2.2.2.1 b.2.2.2.2
    else
     bnd (xG ai ak ab aa slots aq aj c.number) fun b=>
     F7 aq aj au codes b.1 b.2.1 b.2.2.1 b.2.2.2.1 b.2.2.2.2
   else
    if c.kind=4 then
     bnd (nth c.kids 0) fun d=>
     bnd (n8 codes ai ak ab aa slots aq aj d false) fun b=>
     bnd (eU b.2.1 b.2.2.1 b.2.2.2.1 b.2.2.2.2.1 b.2.2.2.2.2 aq aj c.number 7 8) fun e=>
     F7 aq aj au b.1 e.1 e.2.1 e.2.2.1 e.2.2.2.1 e.2.2.2.2
    else
     if c.kind=5 then
      bnd (nth c.kids 0) fun d=>
      bnd (w7 codes ai ak ab aa slots aq aj 11 c.params d) fun b=>
      F7 aq aj au b.1 b.2.1 b.2.2.1 b.2.2.2.1 b.2.2.2.2.1 b.2.2.2.2.2
     else
      if c.kind=10 then
       bnd (nth c.kids 0) fun d=>
       bnd (w7 codes ai ak ab aa slots aq aj 18 [] d) fun b=>
       F7 aq aj au b.1 b.2.1 b.2.2.1 b.2.2.2.1 b.2.2.2.2.1 b.2.2.2.2.2
      else
       if c.kind=11 then
        bnd (nth c.kids 0) fun d=>
        bnd (w7 codes ai ak ab aa slots aq aj 19 c.params d) fun b=>
        F7 aq aj au b.1 b.2.1 b.2.2.1 b.2.2.2.1 b.2.2.2.2.1 b.2.2.2.2.2
       else
        if c.kind=6 then
         itr (fT n8 aq aj c au) LF (0,codes,ai,ak,ab,aa,slots)
        else
         if c.kind=7 then
          bnd (nth c.kids 0) fun d=>
          bnd (n8 codes ai ak ab aa slots aq aj d false) fun b=>
          bnd (I1 b.1 b.2.1 b.2.2.1 b.2.2.2.1 b.2.2.2.2.1 b.2.2.2.2.2 aq aj c au) fun e=>
          some (e.1,e.2.1,e.2.2.1,e.2.2.2.1,e.2.2.2.2.1,e.2.2.2.2.2)
         else
          itr (bF n8 codes aq aj c au) LF (0,ai,ak,ab,aa,slots)
def W6 (r9:List ek->LI->LI->LI->PC->Option (Int×List ek))(codes:List ek)(aq aj:LI)(op:Int)(params:LI)(body:PC)(d:LI)(g:(Int×Int×Int×Int×List ej×LI)->Option (List ek×Int×Int×Int×List ej×LI))(b l18 l19 l20:Int)(e:List ej)(f:LI):Option (List ek×Int×Int×Int×List ej×LI):=
 if b<(d.length:Int)then
  bnd (nth d b) fun c=>
  bnd (xG l18 l19 l20 e f aq aj c) fun a=>
  chk (I64 (b+1))<|
  g ((b+1),a.1,a.2.1,a.2.2.1,a.2.2.2.1,a.2.2.2.2)
 else
  bnd (r9 codes params d aj body) fun c=>
  bnd (Q8 l18 l19 l20 e f aq aj op c.1) fun a=>
  some (c.2,a.2.1,a.2.2.1,a.2.2.2.1,a.2.2.2.2.1,a.2.2.2.2.2)
def eC (r9:List ek->LI->LI->LI->PC->Option (Int×List ek))(codes:List ek)(aq aj:LI)(op:Int)(params:LI)(body:PC)(a:LI)(e:(Int×Int×Int×Int×List ej×LI)->Option (List ek×Int×Int×Int×List ej×LI))(v:Int×Int×Int×Int×List ej×LI):Option (List ek×Int×Int×Int×List ej×LI):=
 match v with
 |(b,l18,l19,l20,c,d)=>W6 r9 codes aq aj op params body a e b l18 l19 l20 c d
def fS (r9:List ek->LI->LI->LI->PC->Option (Int×List ek))(n8:List ek->Int->Int->Int->List ej->LI->LI->LI->PC->Bool->Option (List ek×Int×Int×Int×List ej×LI))(w7:List ek->Int->Int->Int->List ej->LI->LI->LI->Int->LI->PC->Option (List ek×Int×Int×Int×List ej×LI))(I1:List ek->Int->Int->Int->List ej->LI->LI->LI->PC->Bool->Option (List ek×Int×Int×Int×List ej×LI))(codes:List ek)(ai ak ab:Int)(aa:List ej)(slots aq aj:LI)(op:Int)(params:LI)(body:PC):Option (List ek×Int×Int×Int×List ej×LI):=
 bnd (jE body params ([]:LI)) fun a=>
 itr (eC r9 codes aq aj op params body a) LF (0,ai,ak,ab,aa,slots)
def eV (n8:List ek->Int->Int->Int->List ej->LI->LI->LI->PC->Bool->Option (List ek×Int×Int×Int×List ej×LI))(aq aj:LI)(c:PC)(au:Bool)(e:Int×Int×Int×Int×List ej×LI)(h:List ek×Int×Int×Int×List ej×LI)(dg l19 l20 l21:Int)(b:List ej)(i:LI):Option (List ek×Int×Int×Int×List ej×LI):=
 bnd (nth b e.1) fun f=>
 bnd (nth c.kids 2) fun j=>
 bnd (n8 h.1 l19 l20 l21 (b.set e.1.toNat (ej.mk f.op (b.length:Int) f.d)) i aq aj j au) fun a=>
 if au=true then
  some (a.1,a.2.1,a.2.2.1,a.2.2.2.1,a.2.2.2.2.1,a.2.2.2.2.2)
 else
  bnd (nth a.2.2.2.2.1 dg) fun g=>
  some (a.1,a.2.1,a.2.2.1,a.2.2.2.1,(a.2.2.2.2.1.set dg.toNat (ej.mk g.op (a.2.2.2.2.1.length:Int) g.d)),a.2.2.2.2.2)
def iY (r9:List ek->LI->LI->LI->PC->Option (Int×List ek))(n8:List ek->Int->Int->Int->List ej->LI->LI->LI->PC->Bool->Option (List ek×Int×Int×Int×List ej×LI))(w7:List ek->Int->Int->Int->List ej->LI->LI->LI->Int->LI->PC->Option (List ek×Int×Int×Int×List ej×LI))(I1:List ek->Int->Int->Int->List ej->LI->LI->LI->PC->Bool->Option (List ek×Int×Int×Int×List ej×LI))(codes:List ek)(ai ak ab:Int)(aa:List ej)(slots aq aj:LI)(c:PC)(au:Bool):Option (List ek×Int×Int×Int×List ej×LI):=
 bnd (Q8 ai ak ab aa slots aq aj 16 0) fun b=>
 bnd (nth c.kids 1) fun e=>
 bnd (n8 codes b.2.1 b.2.2.1 b.2.2.2.1 b.2.2.2.2.1 b.2.2.2.2.2 aq aj e au) fun a=>
 if au=true then
  eV n8 aq aj c au b a (-1) a.2.1 a.2.2.1 a.2.2.2.1 a.2.2.2.2.1 a.2.2.2.2.2
 else
  bnd (Q8 a.2.1 a.2.2.1 a.2.2.2.1 a.2.2.2.2.1 a.2.2.2.2.2 aq aj 15 0) fun d=>
  eV n8 aq aj c au b a d.1 d.2.1 d.2.2.1 d.2.2.2.1 d.2.2.2.2.1 d.2.2.2.2.2
mutual
def r9:Nat->List ek->LI->LI->LI->PC->Option (Int×List ek)
 |0,_,_,_,_,_=>none
 |n+1,codes,params,aq,aj,body=>cB (r9 n) (n8 n) (w7 n) (I1 n) codes params aq aj body
def n8:Nat->List ek->Int->Int->Int->List ej->LI->LI->LI->PC->Bool->Option (List ek×Int×Int×Int×List ej×LI)
 |0,_,_,_,_,_,_,_,_,_,_=>none
 |n+1,codes,ai,ak,ab,aa,slots,aq,aj,c,au=>jA (r9 n) (n8 n) (w7 n) (I1 n) codes ai ak ab aa slots aq aj c au
def w7:Nat->List ek->Int->Int->Int->List ej->LI->LI->LI->Int->LI->PC->Option (List ek×Int×Int×Int×List ej×LI)
 |0,_,_,_,_,_,_,_,_,_,_,_=>none
 |n+1,codes,ai,ak,ab,aa,slots,aq,aj,op,params,body=>fS (r9 n) (n8 n) (w7 n) (I1 n) codes ai ak ab aa slots aq aj op params body
def I1:Nat->List ek->Int->Int->Int->List ej->LI->LI->LI->PC->Bool->Option (List ek×Int×Int×Int×List ej×LI)
 |0,_,_,_,_,_,_,_,_,_,_=>none
 |n+1,codes,ai,ak,ab,aa,slots,aq,aj,c,au=>iY (r9 n) (n8 n) (w7 n) (I1 n) codes ai ak ab aa slots aq aj c au
end
def dM (i6:Int)(a:(Int×LI)->Option LI)(dq:LI):Option LI:=
 chk (I64 (i6+1))<|
 a ((i6+1),dq)
def Z6 (t8:PC->LI->Option LI)(c:PC)(b:(Int×LI)->Option LI)(a:Int)(cu:LI):Option LI:=
 if a<(c.kids.length:Int)then
  bnd (nth c.kids a) fun d=>
  bnd (t8 d cu) fun e=>
  chk (I64 (a+1))<|
  b ((a+1),e)
 else
  some cu
def kL (t8:PC->LI->Option LI)(c:PC)(b:(Int×LI)->Option LI)(v:Int×LI):Option LI:=
 match v with
 |(a,cu)=>Z6 t8 c b a cu
def X8 (t8:PC->LI->Option LI)(c:PC)(i6:Int)(ck:LI)(a:(Int×LI)->Option LI)(f:Bool):Option LI:=
 if f=true then
  bnd (nth c.params i6) fun d=>
  bnd (N3 ck d) fun e=>
  if e=true then
   dM i6 a ck
  else
   bnd (nth c.params i6) fun b=>
   chk ((ck.length+([b]:LI).length) * 8<=140737488355328)<|
   dM i6 a (ck++([b]:LI))
 else
  itr (kL t8 c) LF (0,ck)
def Q9 (t8:PC->LI->Option LI)(c:PC)(a:(Int×LI)->Option LI)(i6:Int)(ck:LI):Option LI:=
 if i6<(c.params.length:Int)then
  X8 t8 c i6 ck a (decide (c.kind=9))
 else
  X8 t8 c i6 ck a false
def fV (t8:PC->LI->Option LI)(c:PC)(a:(Int×LI)->Option LI)(v:Int×LI):Option LI:=
 match v with
 |(i6,ck)=>Q9 t8 c a i6 ck
def bK (t8:PC->LI->Option LI)(c:PC)(az:LI):Option LI:=
 itr (fV t8 c) LF (0,az)
def dL (t8:PC->LI->Option LI)(c:PC)(out:LI)(a:Bool):Option LI:=
 if a=true then
  chk ((out.length+([c.number]:LI).length) * 8<=140737488355328)<|
  bK t8 c (out++([c.number]:LI))
 else
  bK t8 c out
def jD (t8:PC->LI->Option LI)(c:PC)(out:LI):Option LI:=
 if c.kind=4 then
  bnd (N3 out c.number) fun a=>
  dL t8 c out (!a)
 else
  dL t8 c out false
def t8:Nat->PC->LI->Option LI
 |0,_,_=>none
 |n+1,c,out=>jD (t8 n) c out
def aD (c:PC):Option LI:=
 bnd (t8 RF c ([]:LI)) fun a=>
 some a
def eZ (N5:PC->Int->Option (Bool×Int))(c:PC)(i4 bf:Int)(a:(Int×Int)->Option (Bool×Int))(b:Bool):Option (Bool×Int):=
 if b=true then
  bnd (nth c.kids i4) fun d=>
  bnd (N5 d bf) fun e=>
  chk (I64 (i4+1))<|
  a ((i4+1),e.2)
 else
  some ((decide (bf>=0)),bf)
def cX (N5:PC->Int->Option (Bool×Int))(c:PC)(a:(Int×Int)->Option (Bool×Int))(i4 bf:Int):Option (Bool×Int):=
 if i4<(c.kids.length:Int)then
  eZ N5 c i4 bf a (decide (bf>=0))
 else
  eZ N5 c i4 bf a false
def yY (N5:PC->Int->Option (Bool×Int))(c:PC)(a:(Int×Int)->Option (Bool×Int))(v:Int×Int):Option (Bool×Int):=
 match v with
 |(i4,bf)=>cX N5 c a i4 bf
def qX (N5:PC->Int->Option (Bool×Int))(c:PC)(be:Int):Option (Bool×Int):=
 chk (I64 (be-1))<|
 itr (yY N5 c) LF (0,(be-1))
def N5:Nat->PC->Int->Option (Bool×Int)
 |0,_,_=>none
 |n+1,c,be=>qX (N5 n) c be
def mX (c:PC):Option Bool:=
 bnd (N5 RF c 3000) fun a=>
 some a.1
def O1 (c:PC):Option LI:=
 bnd (jE c [] ([]:LI)) fun a=>
 some a
def N2 (z8:PC->Option Int)(c:PC)(d:(Int×Int)->Option Int)(b a:Int):Option Int:=
 if a<(c.kids.length:Int)then
  bnd (nth c.kids a) fun e=>
  bnd (z8 e) fun f=>
  chk (I64 (a+1))<|
  d ((max b f),(a+1))
 else
  chk (I64 (b+1))<|
  some (b+1)
def gJ (z8:PC->Option Int)(c:PC)(a:(Int×Int)->Option Int)(v:Int×Int):Option Int:=
 match v with
 |(b,d)=>N2 z8 c a b d
def bB (z8:PC->Option Int)(c:PC):Option Int:=
 itr (gJ z8 c) LF (0,0)
def z8:Nat->PC->Option Int
 |0,_=>none
 |n+1,c=>bB (z8 n) c
def bW (c a b:Int):Option Bool:=
 if c>=a then
  some (decide (c<=b))
 else
  some false
def iU (C4:PD->PD->Option Bool)(a b:PD)(d:Int->Option Bool)(c:Int):Option Bool:=
 if c<(a.items.length:Int)then
  bnd (nth a.items c) fun e=>
  bnd (nth b.items c) fun f=>
  bnd (C4 e f) fun g=>
  if g=true then
   chk (I64 (c+1))<|
   d (c+1)
  else
   some false
 else
  some true
def lB (C4:PD->PD->Option Bool)(a b:PD)(c:Int->Option Bool)(v:Int):Option Bool:=
 match v with
 |d=>iU C4 a b c d
def eA (C4:PD->PD->Option Bool)(a b:PD):Option Bool:=
 if a.kind=b.kind then
  if a.number=b.number then
   if a.text=b.text then
    if(a.items.length:Int)=(b.items.length:Int)then
     itr (lB C4 a b) LF 0
    else
     some false
   else
    some false
  else
   some false
 else
  some false
def C4:Nat->PD->PD->Option Bool
 |0,_,_=>none
 |n+1,a,b=>eA (C4 n) a b
def eY (N4:PD->Int->Option (Bool×Int))(d:PD)(i4 bf:Int)(a:(Int×Int)->Option (Bool×Int))(b:Bool):Option (Bool×Int):=
 if b=true then
  bnd (nth d.items i4) fun c=>
  bnd (N4 c bf) fun e=>
  chk (I64 (i4+1))<|
  a ((i4+1),e.2)
 else
  some ((decide (bf>=0)),bf)
def cW (N4:PD->Int->Option (Bool×Int))(d:PD)(a:(Int×Int)->Option (Bool×Int))(i4 bf:Int):Option (Bool×Int):=
 if i4<(d.items.length:Int)then
  eY N4 d i4 bf a (decide (bf>=0))
 else
  eY N4 d i4 bf a false
def yX (N4:PD->Int->Option (Bool×Int))(d:PD)(a:(Int×Int)->Option (Bool×Int))(v:Int×Int):Option (Bool×Int):=
 match v with
 |(i4,bf)=>cW N4 d a i4 bf
def qU (N4:PD->Int->Option (Bool×Int))(d:PD)(be:Int):Option (Bool×Int):=
 chk (I64 (be-1))<|
 itr (yX N4 d) LF (0,(be-1))
def N4:Nat->PD->Int->Option (Bool×Int)
 |0,_,_=>none
 |n+1,d,be=>qU (N4 n) d be
def Y9 (G6:PD->Option Int)(d:PD)(c:(Int×Int)->Option Int)(b a:Int):Option Int:=
 if a<(d.items.length:Int)then
  bnd (nth d.items a) fun e=>
  bnd (G6 e) fun f=>
  chk (I64 (a+1))<|
  c ((max b f),(a+1))
 else
  chk (I64 (b+1))<|
  some (b+1)
def qN (G6:PD->Option Int)(d:PD)(a:(Int×Int)->Option Int)(v:Int×Int):Option Int:=
 match v with
 |(b,c)=>Y9 G6 d a b c
def iT (G6:PD->Option Int)(d:PD):Option Int:=
 itr (qN G6 d) LF (0,0)
def G6:Nat->PD->Option Int
 |0,_=>none
 |n+1,d=>iT (G6 n) d
def fU (b:Int):Option Bool:=
 if b>=48 then
  some (decide (b<=57))
 else
  some false
def dK (b:Int)(a:Int->Option Bool)(i3:Int):Option Bool:=
 if i3<(([33,63,42,60,62,61,47,43,45,46,95]:LB).length:Int)then
  bnd (nth ([33,63,42,60,62,61,47,43,45,46,95]:LB) i3) fun c=>
  if(c.toNat:Int)=b then
   some true
  else
   chk (I64 (i3+1))<|
   a (i3+1)
 else
  some false
def uN (b:Int)(a:Int->Option Bool)(v:Int):Option Bool:=
 match v with
 |i3=>dK b a i3
def bI (b:Int)(a:Bool):Option Bool:=
 if a=true then
  some true
 else
  itr (uN b) LF 0
def xI (b:Int):Option Bool:=
 if b>=97 then
  if b<=122 then
   bI b true
  else
   bnd (fU b) fun a=>
   bI b a
 else
  bnd (fU b) fun a=>
  bI b a
def W4 (s:LB)(a:Int->Option Bool)(i3:Int):Option Bool:=
 if i3<(s.length:Int)then
  bnd (nth s i3) fun b=>
  bnd (xI (b.toNat:Int)) fun c=>
  if c=true then
   chk (I64 (i3+1))<|
   a (i3+1)
  else
   some false
 else
  some true
def oI (s:LB)(a:Int->Option Bool)(v:Int):Option Bool:=
 match v with
 |i3=>W4 s a i3
def N8 (s:LB)(a:Bool):Option Bool:=
 if a=true then
  some false
 else
  itr (oI s) LF 0
def gW (s:LB):Option Bool:=
 bnd (bW (s.length:Int) 1 16) fun a=>
 if a=true then
  bnd (nth s 0) fun b=>
  bnd (fU (b.toNat:Int)) fun c=>
  if c=true then
   N8 s true
  else
   bnd (nth s 0) fun d=>
   if(d.toNat:Int)=45 then
    if(s.length:Int)>1 then
     bnd (nth s 1) fun e=>
     bnd (fU (e.toNat:Int)) fun f=>
     N8 s f
    else
     N8 s false
   else
    N8 s false
 else
  N8 s true
def W7 (s:LB)(a:Int->Option Bool)(i2:Int):Option Bool:=
 if i2<(s.length:Int)then
  bnd (nth s i2) fun b=>
  if(b.toNat:Int)<32 then
   some false
  else
   bnd (nth s i2) fun c=>
   if(c.toNat:Int)>126 then
    some false
   else
    bnd (nth s i2) fun d=>
    if(d.toNat:Int)=34 then
     some false
    else
     chk (I64 (i2+1))<|
     a (i2+1)
 else
  some (decide ((s.length:Int)<=20))
def xK (s:LB)(a:Int->Option Bool)(v:Int):Option Bool:=
 match v with
 |i2=>W7 s a i2
def mV (s:LB):Option Bool:=
 itr (xK s) LF 0
def xJ (kind number:Int)(text:LB)(items:Int):Option Bool:=
 if kind=0 then
  if number=0 then
   some (decide (text=([]:LB)))
  else
   some false
 else
  if kind=1 then
   if number=0 then
    bnd (gW text) fun a=>
    if a=true then
     some (decide (items=0))
    else
     some false
   else
    some false
  else
   if kind=2 then
    bnd (bW number (-999999999) 999999999) fun a=>
    if a=true then
     if text=([]:LB)then
      some (decide (items=0))
     else
      some false
    else
     some false
   else
    if kind=3 then
     bnd (bW number 0 1) fun a=>
     if a=true then
      if text=([]:LB)then
       some (decide (items=0))
      else
       some false
     else
      some false
    else
     if kind=4 then
      if number=0 then
       bnd (mV text) fun a=>
       if a=true then
        some (decide (items=0))
       else
        some false
      else
       some false
     else
      some false
def Z4 (G7:PD->Option Bool)(d:PD)(c:Int->Option Bool)(a:Int):Option Bool:=
 if a<(d.items.length:Int)then
  bnd (nth d.items a) fun b=>
  bnd (G7 b) fun e=>
  if e=true then
   chk (I64 (a+1))<|
   c (a+1)
  else
   some false
 else
  bnd (xJ d.kind d.number d.text (d.items.length:Int)) fun b=>
  some b
def qV (G7:PD->Option Bool)(d:PD)(a:Int->Option Bool)(v:Int):Option Bool:=
 match v with
 |b=>Z4 G7 d a b
def jB (G7:PD->Option Bool)(d:PD):Option Bool:=
 itr (qV G7 d) LF 0
def G7:Nat->PD->Option Bool
 |0,_=>none
 |n+1,d=>jB (G7 n) d
def mL (d:PD):Option Bool:=
 bnd (N4 RF d 600) fun a=>
 if a.1=true then
  bnd (G6 RF d) fun b=>
  if b<=20 then
   bnd (G7 RF d) fun c=>
   some c
  else
   some false
 else
  some false
def P3:Option (List LB):=
 some ([([43]:LB),([45]:LB),([42]:LB),([61]:LB),([60]:LB),([99,111,110,115]:LB),([99,97,114]:LB),([99,100,114]:LB),([110,117,108,108,63]:LB),([112,97,105,114,63]:LB),([110,117,109,98,101,114,63]:LB),([101,113,63]:LB),([110,111,116]:LB),([100,105,115,112,108,97,121]:LB)]:List LB)
def M3 (c:PC)(d:Bool):Option Bool:=
 if d=true then
  some false
 else
  if c.kind=1 then
   if(c.kids.length:Int)=0 then
    if(c.params.length:Int)=0 then
     bnd (mL c.datum) fun a=>
     some a
    else
     some false
   else
    some false
  else
   if c.kind=2 then
    if(c.kids.length:Int)=0 then
     some (decide ((c.params.length:Int)=0))
    else
     some false
   else
    if c.kind=3 then
     if(c.kids.length:Int)=0 then
      if(c.params.length:Int)=0 then
       bnd (P3) fun a=>
       chk (I64 ((a.length:Int)-1))<|
       bnd (bW c.number 0 ((a.length:Int)-1)) fun b=>
       some b
      else
       some false
     else
      some false
    else
     if c.kind=4 then
      if(c.kids.length:Int)=1 then
       some (decide ((c.params.length:Int)=0))
      else
       some false
     else
      if c.kind=5 then
       if(c.kids.length:Int)=1 then
        some (decide ((c.params.length:Int)<=8))
       else
        some false
      else
       if c.kind=6 then
        bnd (bW (c.kids.length:Int) 1 9) fun a=>
        if a=true then
         some (decide ((c.params.length:Int)=0))
        else
         some false
       else
        if c.kind=7 then
         if(c.kids.length:Int)=3 then
          some (decide ((c.params.length:Int)=0))
         else
          some false
        else
         if c.kind=8 then
          bnd (bW (c.kids.length:Int) 2 60) fun a=>
          if a=true then
           some (decide ((c.params.length:Int)=0))
          else
           some false
         else
          if c.kind=9 then
           bnd (bW (c.kids.length:Int) 1 60) fun a=>
           if a=true then
            bnd (bW (c.params.length:Int) 1 60) fun b=>
            some b
           else
            some false
          else
           if c.kind=10 then
            if(c.kids.length:Int)=1 then
             some (decide ((c.params.length:Int)=0))
            else
             some false
           else
            if c.kind=11 then
             if(c.kids.length:Int)=1 then
              some (decide ((c.params.length:Int)=1))
             else
              some false
            else
             some false
def rB (c:PC):Option Bool:=
 if c.kind=1 then
  if c.number=0 then
   M3 c false
  else
   bnd (fX c) fun a=>
   if a=true then
    M3 c false
   else
    M3 c (!decide (c.kind=3))
 else
  bnd (C4 RF c.datum (PD.mk 0 0 ([]:LB) [])) fun a=>
  if a=true then
   if c.number=0 then
    M3 c false
   else
    bnd (fX c) fun b=>
    if b=true then
     M3 c false
    else
     M3 c (!decide (c.kind=3))
  else
   M3 c true
def bM (a:Int)(b:Int->Option Bool)(c:Bool):Option Bool:=
 if c=true then
  some false
 else
  chk (I64 (a+1))<|
  b (a+1)
def Z7 (G8:PC->Option Bool)(c:PC)(a:Int->Option Bool)(b:Int):Option Bool:=
 if b<(c.kids.length:Int)then
  bnd (nth c.kids b) fun d=>
  bnd (G8 d) fun e=>
  if e=true then
   if c.kind=8 then
    bM b a (decide (d.kind=8))
   else
    bM b a false
  else
   bM b a true
 else
  bnd (rB c) fun d=>
  some d
def rA (G8:PC->Option Bool)(c:PC)(a:Int->Option Bool)(v:Int):Option Bool:=
 match v with
 |b=>Z7 G8 c a b
def jF (G8:PC->Option Bool)(c:PC):Option Bool:=
 itr (rA G8 c) LF 0
def G8:Nat->PC->Option Bool
 |0,_=>none
 |n+1,c=>jF (G8 n) c
def W8 (av:LI)(b:Int->Option Bool)(a:Int):Option Bool:=
 if a<(av.length:Int)then
  bnd (nth av a) fun c=>
  bnd (bW c 0 99999) fun d=>
  if d=true then
   chk (0<=a/\a<=av.length)<|
   bnd (N3 (av.take a.toNat) c) fun e=>
   if e=true then
    some false
   else
    chk (I64 (a+1))<|
    b (a+1)
  else
   some false
 else
  some true
def oN (av:LI)(a:Int->Option Bool)(v:Int):Option Bool:=
 match v with
 |b=>W8 av a b
def fA (av:LI):Option Bool:=
 itr (oN av) LF 0
def oK (I8:PC->LI->Option LI)(c:PC)(b:(Int×LI)->Option LI)(a:Int)(az:LI):Option LI:=
 if a<(c.kids.length:Int)then
  bnd (nth c.kids a) fun d=>
  bnd (I8 d az) fun e=>
  chk (I64 (a+1))<|
  b ((a+1),e)
 else
  some az
def qW (I8:PC->LI->Option LI)(c:PC)(a:(Int×LI)->Option LI)(v:Int×LI):Option LI:=
 match v with
 |(b,az)=>oK I8 c a b az
def jC (I8:PC->LI->Option LI)(c:PC)(out:LI):Option LI:=
 chk ((out.length+c.params.length) * 8<=140737488355328)<|
 itr (qW I8 c) LF (0,(out++c.params))
def I8:Nat->PC->LI->Option LI
 |0,_,_=>none
 |n+1,c,out=>jC (I8 n) c out
def bC (globals c:LI)(b:Int->Option Bool)(a:Int):Option Bool:=
 if a<(c.length:Int)then
  bnd (nth c a) fun d=>
  bnd (N3 globals d) fun e=>
  if e=true then
   chk (I64 (a+1))<|
   b (a+1)
  else
   some false
 else
  some true
def uK (globals b:LI)(c:Int->Option Bool)(v:Int):Option Bool:=
 match v with
 |a=>bC globals b c a
def xD (c:PC)(globals:LI):Option Bool:=
 bnd (mX c) fun d=>
 if d=true then
  bnd (z8 RF c) fun e=>
  if e>150 then
   some false
  else
   bnd (G8 RF c) fun f=>
   if f=true then
    bnd (cQ globals) fun a=>
    bnd (I8 RF c []) fun b=>
    chk ((a.length+b.length) * 8<=140737488355328)<|
    bnd (fA (a++b)) fun g=>
    if g=true then
     bnd (O1 c) fun h=>
     itr (uK globals h) LF 0
    else
     some false
   else
    some false
 else
  some false
def sR (s:LB):Option Bool:=
 if(s.length:Int)<=8 then
  bnd (gW s) fun a=>
  some a
 else
  some false
def mO (u:PUnit')(globals:LI):Option Bool:=
 bnd (cQ globals) fun a=>
 chk ((a.length+u.globals.length) * 8<=140737488355328)<|
 bnd (sR u.name) fun b=>
 if b=true then
  bnd (fA (a++u.globals)) fun c=>
  if c=true then
   bnd (xD u.body (a++u.globals)) fun d=>
   some d
  else
   some false
 else
  some false
def sQ (op:Int):Option Bool:=
 if op=14 then
  some true
 else
  some (decide (op=17))
def mT (b:ej):Option Bool:=
 bnd (bW b.op 1 20) fun e=>
 if e=true then
  if b.op=1 then
   if b.a=0 then
    bnd (mL b.d) fun c=>
    some c
   else
    some false
  else
   bnd (C4 RF b.d (PD.mk 0 0 ([]:LB) [])) fun c=>
   if c=true then
    bnd (bW b.a 0 4000) fun f=>
    if f=true then
     if b.a=0 then
      some true
     else
      bnd (sQ b.op) fun g=>
      some (!g)
    else
     some false
   else
    some false
 else
  some false
def dF (m:eo)(c:Int)(b:ej)(e:Bool):Option Bool:=
 if e=true then
  if b.a<c then
   bnd (nth m.codes b.a) fun d=>
   some (decide (d.params=0))
  else
   some false
 else
  if b.op=19 then
   if b.a<c then
    bnd (nth m.codes b.a) fun d=>
    some (decide (d.params=1))
   else
    some false
  else
   if b.op=12 then
    some (decide (b.a<=8))
   else
    if b.op=13 then
     some (decide (b.a<=8))
    else
     some true
def qR (m:eo)(d:Int)(b:ej):Option Bool:=
 bnd (nth m.codes d) fun c=>
 if b.op=2 then
  bnd (P3) fun e=>
  some (decide (b.a<(e.length:Int)))
 else
  if b.op=3 then
   some (decide (b.a<c.slots))
  else
   if b.op=5 then
    some (decide (b.a<c.slots))
   else
    if b.op=7 then
     some (decide (b.a<c.slots))
    else
     if b.op=9 then
      chk (I64 (c.slots-1))<|
      bnd (bW b.a c.params (c.slots-1)) fun e=>
      some e
     else
      if b.op=10 then
       some (decide (b.a<c.params))
      else
       if b.op=4 then
        some (decide (b.a<c.captures))
       else
        if b.op=6 then
         some (decide (b.a<c.captures))
        else
         if b.op=8 then
          some (decide (b.a<c.captures))
         else
          if b.op=11 then
           if b.a<d then
            bnd (nth m.codes b.a) fun e=>
            some (decide (e.params<=8))
           else
            some false
          else
           if b.op=18 then
            dF m d b true
           else
            dF m d b (decide (b.op=20))
def Z0 (m:eo)(c:Int)(d:ek)(e:Int->Option Bool)(a:Int):Option Bool:=
 if a<(d.instrs.length:Int)then
  bnd (nth d.instrs a) fun b=>
  bnd (mT b) fun f=>
  if f=true then
   bnd (qR m c b) fun g=>
   if g=true then
    chk (I64 (a+1))<|
    e (a+1)
   else
    some false
  else
   some false
 else
  some true
def zS (m:eo)(a:Int)(b:ek)(c:Int->Option Bool)(v:Int):Option Bool:=
 match v with
 |d=>Z0 m a b c d
def qQ (m:eo)(b:Int):Option Bool:=
 bnd (nth m.codes b) fun a=>
 bnd (bW a.params 0 8) fun c=>
 if c=true then
  bnd (bW a.slots a.params 500) fun d=>
  if d=true then
   bnd (bW a.captures 0 500) fun e=>
   if e=true then
    bnd (bW (a.instrs.length:Int) 1 4000) fun f=>
    if f=true then
     itr (zS m b a) LF 0
    else
     some false
   else
    some false
  else
   some false
 else
  some false
def iX (m:eo)(b:ej):Option (Int×Int):=
 if b.op=1 then
  some (0,1)
 else
  if b.op=2 then
   some (0,1)
  else
   if b.op=3 then
    some (0,1)
   else
    if b.op=4 then
     some (0,1)
    else
     if b.op=5 then
      some (0,1)
     else
      if b.op=6 then
       some (0,1)
      else
       if b.op=7 then
        some (1,1)
       else
        if b.op=8 then
         some (1,1)
        else
         if b.op=11 then
          bnd (nth m.codes b.a) fun c=>
          some (c.captures,1)
         else
          if b.op=18 then
           bnd (nth m.codes b.a) fun c=>
           some (c.captures,1)
          else
           if b.op=19 then
            bnd (nth m.codes b.a) fun c=>
            some (c.captures,1)
           else
            if b.op=20 then
             bnd (nth m.codes b.a) fun c=>
             some (c.captures,1)
            else
             if b.op=12 then
              chk (I64 (b.a+1))<|
              some ((b.a+1),1)
             else
              if b.op=13 then
               chk (I64 (b.a+1))<|
               some ((b.a+1),0)
              else
               if b.op=14 then
                some (1,0)
               else
                if b.op=17 then
                 some (1,0)
                else
                 if b.op=16 then
                  some (1,0)
                 else
                  some (0,0)
def N9 (a:Int)(bg:(Int×LI)->Option (LI×Bool))(cz:LI):Option (LI×Bool):=
 chk (I64 (a+1))<|
 bg ((a+1),cz)
def R1 (a:Int×Int)(b c:Int)(bh:LI)(db:(Int×LI)->Option (LI×Bool))(d:Int)(e:Bool):Option (LI×Bool):=
 if e=true then
  some ([],false)
 else
  chk (I64 ((b-a.1)+a.2))<|
  bnd (nth bh d) fun f=>
  chk (I64 (c+1))<|
  db ((c+1),(bh.set d.toNat ((b-a.1)+a.2)))
def S6 (i:ek)(f:Int)(bg:(Int×LI)->Option (LI×Bool))(a:Int×Int)(c:Int)(e:LI)(db:(Int×LI)->Option (LI×Bool))(d:Int)(bh:LI):Option (LI×Bool):=
 if d<(e.length:Int)then
  bnd (nth e d) fun b=>
  if b<=f then
   R1 a c d bh db b true
  else
   if b>=(i.instrs.length:Int)then
    R1 a c d bh db b true
   else
    bnd (nth bh b) fun g=>
    if g>=0 then
     bnd (nth bh b) fun h=>
     chk (I64 ((c-a.1)+a.2))<|
     R1 a c d bh db b (!decide (h=((c-a.1)+a.2)))
    else
     R1 a c d bh db b false
 else
  N9 f bg bh
def fI (e:ek)(f:Int)(bg:(Int×LI)->Option (LI×Bool))(a:Int×Int)(b:Int)(c:LI)(g:(Int×LI)->Option (LI×Bool))(v:Int×LI):Option (LI×Bool):=
 match v with
 |(d,bh)=>S6 e f bg a b c g d bh
def I7 (d:ek)(e:Int)(ay:LI)(bg:(Int×LI)->Option (LI×Bool))(a:Int×Int)(b:Int)(c:LI):Option (LI×Bool):=
 itr (fI d e bg a b c) LF (0,ay)
def aJ (f:ek)(c:Int)(ay:LI)(bg:(Int×LI)->Option (LI×Bool))(b:ej)(d:Int×Int)(e:Int)(g:Bool):Option (LI×Bool):=
 if g=true then
  I7 f c ay bg d e []
 else
  if b.op=15 then
   I7 f c ay bg d e ([b.a]:LI)
  else
   if b.op=16 then
    chk ((([(c+1)]:LI).length+([b.a]:LI).length) * 8<=140737488355328)<|
    I7 f c ay bg d e (([(c+1)]:LI)++([b.a]:LI))
   else
    I7 f c ay bg d e ([(c+1)]:LI)
def E6 (e:ek)(d:Int)(ay:LI)(bg:(Int×LI)->Option (LI×Bool))(a:ej)(b:Int×Int)(c:Int)(f:Bool):Option (LI×Bool):=
 if f=true then
  some ([],false)
 else
  chk (I64 (d+1))<|
  if a.op=14 then
   aJ e d ay bg a b c true
  else
   aJ e d ay bg a b c (decide (a.op=13))
def S5 (m:eo)(e:ek)(bg:(Int×LI)->Option (LI×Bool))(d:Int)(ay:LI):Option (LI×Bool):=
 if d<(e.instrs.length:Int)then
  bnd (nth e.instrs d) fun c=>
  bnd (nth ay d) fun f=>
  if f<0 then
   N9 d bg ay
  else
   bnd (iX m c) fun a=>
   bnd (nth ay d) fun b=>
   chk (I64 (b-a.1))<|
   if(b-a.1)<0 then
    E6 e d ay bg c a b true
   else
    chk (I64 ((b-a.1)+a.2))<|
    if((b-a.1)+a.2)>500 then
     E6 e d ay bg c a b true
    else
     if c.op=14 then
      if(b-a.1)=0 then
       if c.op=13 then
        E6 e d ay bg c a b (!decide ((b-a.1)=0))
       else
        E6 e d ay bg c a b false
      else
       E6 e d ay bg c a b true
     else
      if c.op=13 then
       E6 e d ay bg c a b (!decide ((b-a.1)=0))
      else
       E6 e d ay bg c a b false
 else
  some (ay,true)
def fG (m:eo)(a:ek)(b:(Int×LI)->Option (LI×Bool))(v:Int×LI):Option (LI×Bool):=
 match v with
 |(c,ay)=>S5 m a b c ay
def R9 (m:eo)(b:ek)(c:(Int×LI)->Option (LI×Bool))(a:Int)(ci:LI):Option (LI×Bool):=
 if a<((List.replicate (b.instrs.length:Int).toNat (0:Int)).length:Int)then
  bnd (nth ci a) fun d=>
  chk (I64 (a+1))<|
  c ((a+1),(ci.set a.toNat (-1)))
 else
  if(b.instrs.length:Int)=0 then
   some ([],false)
  else
   bnd (nth ci 0) fun d=>
   itr (fG m b) LF (0,(ci.set (0:Int).toNat 0))
def lE (m:eo)(a:ek)(b:(Int×LI)->Option (LI×Bool))(v:Int×LI):Option (LI×Bool):=
 match v with
 |(c,ci)=>R9 m a b c ci
def iW (m:eo)(b:Int):Option (LI×Bool):=
 bnd (nth m.codes b) fun a=>
 chk (0<=(a.instrs.length:Int)/\(8:Nat) * (a.instrs.length:Int)<=281474976710656/\(a.instrs.length:Int)<=281474976710656)<|
 itr (lE m a) LF (0,(List.replicate (a.instrs.length:Int).toNat (0:Int)))
def iZ (op:Int):Option Bool:=
 if op=11 then
  some true
 else
  if op=18 then
   some true
  else
   if op=19 then
    some true
   else
    some (decide (op=20))
def dI (a:Int)(b:(Int×LI)->Option Bool)(dh:LI):Option Bool:=
 chk (I64 (a+1))<|
 b ((a+1),dh)
def Z2 (f:Int)(g:(Int×LI)->Option Bool)(h:ek)(d:(Int×LI)->Option Bool)(b:Int)(ct:LI):Option Bool:=
 if b<(h.instrs.length:Int)then
  bnd (nth h.instrs b) fun c=>
  bnd (iZ c.op) fun i=>
  if i=true then
   bnd (nth ct c.a) fun e=>
   chk (I64 (e+1))<|
   bnd (nth ct c.a) fun j=>
   dI b d (ct.set c.a.toNat (e+1))
  else
   dI b d ct
 else
  chk (I64 (f+1))<|
  g ((f+1),ct)
def kI (b:Int)(a:(Int×LI)->Option Bool)(c:ek)(d:(Int×LI)->Option Bool)(v:Int×LI):Option Bool:=
 match v with
 |(e,ct)=>Z2 b a c d e ct
def dJ (a:Int)(b:Int->Option Bool)(c:Bool):Option Bool:=
 if c=true then
  some false
 else
  chk (I64 (a+1))<|
  b (a+1)
def Z3 (m:eo)(br:LI)(b:Int->Option Bool)(a:Int):Option Bool:=
 if a<(br.length:Int)then
  bnd (nth br a) fun c=>
  if c=1 then
   dJ a b false
  else
   dJ a b (!decide (a=m.main))
 else
  some true
def kJ (m:eo)(br:LI)(a:Int->Option Bool)(v:Int):Option Bool:=
 match v with
 |b=>Z3 m br a b
def Z1 (m:eo)(b:(Int×LI)->Option Bool)(a:Int)(br:LI):Option Bool:=
 if a<(m.codes.length:Int)then
  bnd (nth m.codes a) fun c=>
  itr (kI a b c) LF (0,br)
 else
  itr (kJ m br) LF 0
def qT (m:eo)(a:(Int×LI)->Option Bool)(v:Int×LI):Option Bool:=
 match v with
 |(b,br)=>Z1 m a b br
def qS (m:eo):Option Bool:=
 chk (0<=(m.codes.length:Int)/\(8:Nat) * (m.codes.length:Int)<=281474976710656/\(m.codes.length:Int)<=281474976710656)<|
 itr (qT m) LF (0,(List.replicate (m.codes.length:Int).toNat (0:Int)))
def eB (m:eo)(e:(Int×Int)->Option Bool)(c a:Int):Option Bool:=
 if a<(m.codes.length:Int)then
  bnd (qQ m a) fun d=>
  if d=true then
   bnd (iW m a) fun f=>
   if f.2=true then
    bnd (nth m.codes a) fun b=>
    chk (I64 (c+(b.instrs.length:Int)))<|
    chk (I64 (a+1))<|
    e ((c+(b.instrs.length:Int)),(a+1))
   else
    some false
  else
   some false
 else
  if c<=16000 then
   bnd (qS m) fun d=>
   some d
  else
   some false
def qP (m:eo)(a:(Int×Int)->Option Bool)(v:Int×Int):Option Bool:=
 match v with
 |(b,c)=>eB m a b c
def qO (m:eo)(captures:Int):Option Bool:=
 bnd (bW (m.codes.length:Int) 1 1500) fun a=>
 if a=true then
  chk (I64 ((m.codes.length:Int)-1))<|
  if m.main=((m.codes.length:Int)-1)then
   bnd (nth m.codes m.main) fun b=>
   if b.params=0 then
    bnd (nth m.codes m.main) fun c=>
    if c.captures=captures then
     itr (qP m) LF (0,0)
    else
     some false
   else
    some false
  else
   some false
 else
  some false
def mM (o:ep):Option Bool:=
 bnd (cQ o.defines) fun a=>
 chk ((a.length+o.uses.length) * 8<=140737488355328)<|
 bnd (sR o.name) fun b=>
 if b=true then
  bnd (fA (a++o.uses)) fun c=>
  if c=true then
   bnd (qO o.image ((a++o.uses).length:Int)) fun d=>
   some d
  else
   some false
 else
  some false
def U4 (a:Int)(b:(Int×LI×LI)->Option (ep×Bool))(all9 di:LI):Option (ep×Bool):=
 chk (I64 (a+1))<|
 b ((a+1),all9,di)
def E5 (u:PUnit')(g:LI)(e:(Int×LI×LI)->Option (ep×Bool))(d:Int)(ba cb:LI):Option (ep×Bool):=
 if d<(g.length:Int)then
  bnd (nth g d) fun a=>
  bnd (N3 ba a) fun b=>
  if b=true then
   U4 d e ba cb
  else
   chk ((ba.length+([a]:LI).length) * 8<=140737488355328)<|
   chk ((cb.length+([a]:LI).length) * 8<=140737488355328)<|
   U4 d e (ba++([a]:LI)) (cb++([a]:LI))
 else
  bnd (mO (PUnit'.mk u.name [] u.body) ba) fun a=>
  if a=true then
   bnd (aD u.body) fun b=>
   chk ((b.length+ba.length) * 8<=140737488355328)<|
   bnd (r9 RF [] [] ba (b++ba) u.body) fun c=>
   bnd (cQ u.globals) fun f=>
   bnd (mM (ep.mk u.name f cb (eo.mk c.2 c.1))) fun h=>
   if h=true then
    some ((ep.mk u.name f cb (eo.mk c.2 c.1)),true)
   else
    some ((ep.mk ([]:LB) [] [] (eo.mk [] 0)),false)
  else
   some ((ep.mk ([]:LB) [] [] (eo.mk [] 0)),false)
def cP (u:PUnit')(a:LI)(b:(Int×LI×LI)->Option (ep×Bool))(v:Int×LI×LI):Option (ep×Bool):=
 match v with
 |(c,ba,cb)=>E5 u a b c ba cb
def dZ (u:PUnit'):Option (ep×Bool):=
 bnd (mX u.body) fun a=>
 if a=true then
  bnd (O1 u.body) fun b=>
  bnd (cQ u.globals) fun c=>
  itr (cP u b) LF (0,c,([]:LI))
 else
  some ((ep.mk ([]:LB) [] [] (eo.mk [] 0)),false)
end Go.Abs

namespace Go.Abs
set_option linter.unusedVariables false
def cE (b:(Int×LB)->Option LB)(a:Int)(co:LB):Option LB:=
 if a>0 then
  chk (0<=a/\a<=9223372036854775807/\(0:Int)<10)<|
  chk (I64 (48+(a % 10)))<|
  chk (0<=(48+(a % 10))/\(48+(a % 10))<=255)<|
  chk (([(UInt8.ofNat (48+(a % 10)).toNat)]:LB).length+co.length<=9223372036854775807)<|
  chk (0<=a/\a<=9223372036854775807/\(0:Int)<10)<|
  b ((a / 10),(([(UInt8.ofNat (48+(a % 10)).toNat)]:LB)++co))
 else
  chk (([109]:LB).length+co.length<=9223372036854775807)<|
  some (([109]:LB)++co)
def pE (a:(Int×LB)->Option LB)(v:Int×LB):Option LB:=
 match v with
 |(b,co)=>cE a b co
def X6 (k:Int):Option LB:=
 if k<=0 then
  some ([109,48]:LB)
 else
  itr pE LF (k,([]:LB))
def P6 (y9:List PD->Int->Option (Int×List PD))(h:(Int×Int×List PD)->Option (Int×List PD))(a i5:Int)(a6:List PD):Option (Int×List PD):=
 if i5<(a6.length:Int)then
  bnd (nth a6 i5) fun b=>
  chk (I64 (a+1))<|
  bnd (nth (a6.set i5.toNat (PD.mk a b.number b.text b.items)) i5) fun d=>
  chk (I64 ((a+1)+1))<|
  bnd (X6 ((a+1)+1)) fun g=>
  bnd (nth ((a6.set i5.toNat (PD.mk a b.number b.text b.items)).set i5.toNat (PD.mk d.kind (a+1) d.text d.items)) i5) fun c=>
  chk (I64 (((a+1)+1)+1))<|
  bnd (nth (((a6.set i5.toNat (PD.mk a b.number b.text b.items)).set i5.toNat (PD.mk d.kind (a+1) d.text d.items)).set i5.toNat (PD.mk c.kind c.number g c.items)) i5) fun e=>
  bnd (y9 e.items (((a+1)+1)+1)) fun f=>
  chk (f.2.length=e.items.length)<|
  chk (I64 (i5+1))<|
  h (f.1,(i5+1),((((a6.set i5.toNat (PD.mk a b.number b.text b.items)).set i5.toNat (PD.mk d.kind (a+1) d.text d.items)).set i5.toNat (PD.mk c.kind c.number g c.items)).set i5.toNat (PD.mk e.kind e.number e.text f.2)))
 else
  some (a,a6)
def jP (y9:List PD->Int->Option (Int×List PD))(a:(Int×Int×List PD)->Option (Int×List PD))(v:Int×Int×List PD):Option (Int×List PD):=
 match v with
 |(b,i5,a6)=>P6 y9 a b i5 a6
def cD (y9:List PD->Int->Option (Int×List PD))(a:List PD)(k:Int):Option (Int×List PD):=
 itr (jP y9) LF (k,0,a)
def y9:Nat->List PD->Int->Option (Int×List PD)
 |0,_,_=>none
 |n+1,a,k=>cD (y9 n) a k
def P4 (A7:List PD->Int->Option Int)(a:List PD)(d:(Int×Int)->Option Int)(b i5:Int):Option Int:=
 if i5<(a.length:Int)then
  bnd (nth a i5) fun g=>
  if g.kind=b then
   chk (I64 (b+1))<|
   bnd (nth a i5) fun h=>
   if h.number=(b+1)then
    chk (I64 ((b+1)+1))<|
    bnd (nth a i5) fun i=>
    bnd (X6 ((b+1)+1)) fun e=>
    if i.text=e then
     chk (I64 (((b+1)+1)+1))<|
     bnd (nth a i5) fun f=>
     bnd (A7 f.items (((b+1)+1)+1)) fun c=>
     if c<0 then
      some (-1)
     else
      chk (I64 (i5+1))<|
      d (c,(i5+1))
    else
     some (-1)
   else
    some (-1)
  else
   some (-1)
 else
  some b
def jL (A7:List PD->Int->Option Int)(a:List PD)(b:(Int×Int)->Option Int)(v:Int×Int):Option Int:=
 match v with
 |(c,i5)=>P4 A7 a b c i5
def cC (A7:List PD->Int->Option Int)(a:List PD)(k:Int):Option Int:=
 itr (jL A7 a) LF (k,0)
def A7:Nat->List PD->Int->Option Int
 |0,_,_=>none
 |n+1,a,k=>cC (A7 n) a k
end Go.Abs

namespace Go.Abs
set_option linter.unusedVariables false
def sU (a:LI)(be:Int):Option Int:=
 chk (I64 (be-(a.length:Int)))<|
 if(be-(a.length:Int))<0 then
  some (-1)
 else
  some (be-(a.length:Int))
def jV (C9:PD->Int->Option Int)(G2:List PD->Int->Option Int)(a:PD)(be:Int):Option Int:=
 chk (I64 (be-(a.text.length:Int)))<|
 if(be-(a.text.length:Int))<0 then
  some (-1)
 else
  bnd (G2 a.items (be-(a.text.length:Int))) fun b=>
  if b<0 then
   some (-1)
  else
   some b
def lO (C9:PD->Int->Option Int)(a:List PD)(b:(Int×Int)->Option Int)(bf i6:Int):Option Int:=
 if i6<(a.length:Int)then
  bnd (nth a i6) fun d=>
  bnd (C9 d bf) fun c=>
  if c<0 then
   some (-1)
  else
   chk (I64 (i6+1))<|
   b (c,(i6+1))
 else
  some bf
def pI (C9:PD->Int->Option Int)(a:List PD)(b:(Int×Int)->Option Int)(v:Int×Int):Option Int:=
 match v with
 |(bf,i6)=>lO C9 a b bf i6
def gD (C9:PD->Int->Option Int)(G2:List PD->Int->Option Int)(a:List PD)(be:Int):Option Int:=
 chk (I64 (be-(a.length:Int)))<|
 if(be-(a.length:Int))<0 then
  some (-1)
 else
  itr (pI C9 a) LF ((be-(a.length:Int)),0)
mutual
def C9:Nat->PD->Int->Option Int
 |0,_,_=>none
 |n+1,a,be=>jV (C9 n) (G2 n) a be
def G2:Nat->List PD->Int->Option Int
 |0,_,_=>none
 |n+1,a,be=>gD (C9 n) (G2 n) a be
end
def nI (F4:PC->Int->Option Int)(L6:List PC->Int->Option Int)(a:PC)(be:Int):Option Int:=
 bnd (sU a.params be) fun b=>
 if b<0 then
  some (-1)
 else
  bnd (C9 RF a.datum b) fun c=>
  if c<0 then
   some (-1)
  else
   bnd (L6 a.kids c) fun d=>
   if d<0 then
    some (-1)
   else
    some d
def pG (F4:PC->Int->Option Int)(a:List PC)(b:(Int×Int)->Option Int)(bf i6:Int):Option Int:=
 if i6<(a.length:Int)then
  bnd (nth a i6) fun d=>
  bnd (F4 d bf) fun c=>
  if c<0 then
   some (-1)
  else
   chk (I64 (i6+1))<|
   b (c,(i6+1))
 else
  some bf
def rL (F4:PC->Int->Option Int)(a:List PC)(b:(Int×Int)->Option Int)(v:Int×Int):Option Int:=
 match v with
 |(bf,i6)=>pG F4 a b bf i6
def jT (F4:PC->Int->Option Int)(L6:List PC->Int->Option Int)(a:List PC)(be:Int):Option Int:=
 chk (I64 (be-(a.length:Int)))<|
 if(be-(a.length:Int))<0 then
  some (-1)
 else
  itr (rL F4 a) LF ((be-(a.length:Int)),0)
mutual
def F4:Nat->PC->Int->Option Int
 |0,_,_=>none
 |n+1,a,be=>nI (F4 n) (L6 n) a be
def L6:Nat->List PC->Int->Option Int
 |0,_,_=>none
 |n+1,a,be=>jT (F4 n) (L6 n) a be
end
def xT (a:PUnit')(be:Int):Option Int:=
 chk (I64 (be-(a.name.length:Int)))<|
 if(be-(a.name.length:Int))<0 then
  some (-1)
 else
  bnd (sU a.globals (be-(a.name.length:Int))) fun b=>
  if b<0 then
   some (-1)
  else
   bnd (F4 RF a.body b) fun c=>
   if c<0 then
    some (-1)
   else
    some c
def rO (a:LI)(b:(Int×LI)->Option LI)(i2:Int)(co:LI):Option LI:=
 if i2<(a.length:Int)then
  bnd (nth a i2) fun c=>
  bnd (nth co i2) fun d=>
  chk (I64 (i2+1))<|
  b ((i2+1),(co.set i2.toNat c))
 else
  some co
def pL (a:LI)(b:(Int×LI)->Option LI)(v:Int×LI):Option LI:=
 match v with
 |(i2,co)=>rO a b i2 co
def kT (a:LI):Option LI:=
 chk (0<=(a.length:Int)/\(8:Nat) * (a.length:Int)<=281474976710656/\(a.length:Int)<=281474976710656)<|
 itr (pL a) LF (0,(List.replicate (a.length:Int).toNat (0:Int)))
def jX (B5:PD->Option PD)(G3:List PD->Option (List PD))(a:PD):Option PD:=
 bnd (G3 a.items) fun b=>
 some (PD.mk a.kind a.number a.text b)
def lP (B5:PD->Option PD)(a:List PD)(b:(Int×List PD)->Option (List PD))(i4:Int)(az:List PD):Option (List PD):=
 if i4<(a.length:Int)then
  bnd (nth a i4) fun c=>
  bnd (B5 c) fun d=>
  bnd (nth az i4) fun e=>
  chk (I64 (i4+1))<|
  b ((i4+1),(az.set i4.toNat d))
 else
  some az
def pK (B5:PD->Option PD)(a:List PD)(b:(Int×List PD)->Option (List PD))(v:Int×List PD):Option (List PD):=
 match v with
 |(i4,az)=>lP B5 a b i4 az
def gE (B5:PD->Option PD)(G3:List PD->Option (List PD))(a:List PD):Option (List PD):=
 chk (0<=(a.length:Int)/\(56:Nat) * (a.length:Int)<=281474976710656/\(a.length:Int)<=281474976710656)<|
 itr (pK B5 a) LF (0,(List.replicate (a.length:Int).toNat ((PD.mk 0 0 ([]:LB) []):PD)))
mutual
def B5:Nat->PD->Option PD
 |0,_=>none
 |n+1,a=>jX (B5 n) (G3 n) a
def G3:Nat->List PD->Option (List PD)
 |0,_=>none
 |n+1,a=>gE (B5 n) (G3 n) a
end
def nJ (D7:PC->Option PC)(L7:List PC->Option (List PC))(a:PC):Option PC:=
 bnd (kT a.params) fun b=>
 bnd (B5 RF a.datum) fun c=>
 bnd (L7 a.kids) fun d=>
 some (PC.mk a.kind a.number b c d)
def pJ (D7:PC->Option PC)(a:List PC)(b:(Int×List PC)->Option (List PC))(i4:Int)(az:List PC):Option (List PC):=
 if i4<(a.length:Int)then
  bnd (nth a i4) fun c=>
  bnd (D7 c) fun d=>
  bnd (nth az i4) fun e=>
  chk (I64 (i4+1))<|
  b ((i4+1),(az.set i4.toNat d))
 else
  some az
def rN (D7:PC->Option PC)(a:List PC)(b:(Int×List PC)->Option (List PC))(v:Int×List PC):Option (List PC):=
 match v with
 |(i4,az)=>pJ D7 a b i4 az
def jW (D7:PC->Option PC)(L7:List PC->Option (List PC))(a:List PC):Option (List PC):=
 chk (0<=(a.length:Int)/\(120:Nat) * (a.length:Int)<=281474976710656/\(a.length:Int)<=281474976710656)<|
 itr (rN D7 a) LF (0,(List.replicate (a.length:Int).toNat ((PC.mk 0 0 [] (PD.mk 0 0 ([]:LB) []) []):PC)))
mutual
def D7:Nat->PC->Option PC
 |0,_=>none
 |n+1,a=>nJ (D7 n) (L7 n) a
def L7:Nat->List PC->Option (List PC)
 |0,_=>none
 |n+1,a=>jW (D7 n) (L7 n) a
end
def fK (a:PUnit'):Option PUnit':=
 bnd (kT a.globals) fun b=>
 bnd (D7 RF a.body) fun c=>
 some (PUnit'.mk a.name b c)
def jJ (B2:PD->PD->Option Bool)(G1:List PD->List PD->Option Bool)(a b:PD):Option Bool:=
 if a.kind=b.kind then
  if a.number=b.number then
   if a.text=b.text then
    bnd (G1 a.items b.items) fun c=>
    if c=true then
     some true
    else
     some false
   else
    some false
  else
   some false
 else
  some false
def lG (B2:PD->PD->Option Bool)(a b:List PD)(c:Int->Option Bool)(i5:Int):Option Bool:=
 if i5<(a.length:Int)then
  bnd (nth a i5) fun d=>
  bnd (nth b i5) fun e=>
  bnd (B2 d e) fun f=>
  if f=true then
   chk (I64 (i5+1))<|
   c (i5+1)
  else
   some false
 else
  some true
def oW (B2:PD->PD->Option Bool)(a b:List PD)(c:Int->Option Bool)(v:Int):Option Bool:=
 match v with
 |i5=>lG B2 a b c i5
def fZ (B2:PD->PD->Option Bool)(G1:List PD->List PD->Option Bool)(a b:List PD):Option Bool:=
 if(a.length:Int)=(b.length:Int)then
  itr (oW B2 a b) LF 0
 else
  some false
mutual
def B2:Nat->PD->PD->Option Bool
 |0,_,_=>none
 |n+1,a,b=>jJ (B2 n) (G1 n) a b
def G1:Nat->List PD->List PD->Option Bool
 |0,_,_=>none
 |n+1,a,b=>fZ (B2 n) (G1 n) a b
end
def nD (a b:ej):Option Bool:=
 if a.op=b.op then
  if a.a=b.a then
   bnd (B2 RF a.d b.d) fun c=>
   if c=true then
    some true
   else
    some false
  else
   some false
 else
  some false
def lI (a b:List ej)(c:Int->Option Bool)(i3:Int):Option Bool:=
 if i3<(a.length:Int)then
  bnd (nth a i3) fun d=>
  bnd (nth b i3) fun e=>
  bnd (nD d e) fun f=>
  if f=true then
   chk (I64 (i3+1))<|
   c (i3+1)
  else
   some false
 else
  some true
def oX (a b:List ej)(c:Int->Option Bool)(v:Int):Option Bool:=
 match v with
 |i3=>lI a b c i3
def sT (a b:List ej):Option Bool:=
 if(a.length:Int)=(b.length:Int)then
  itr (oX a b) LF 0
 else
  some false
def sS (a b:ek):Option Bool:=
 if a.params=b.params then
  if a.slots=b.slots then
   if a.captures=b.captures then
    bnd (sT a.instrs b.instrs) fun c=>
    if c=true then
     some true
    else
     some false
   else
    some false
  else
   some false
 else
  some false
def oT (a b:List ek)(c:Int->Option Bool)(i3:Int):Option Bool:=
 if i3<(a.length:Int)then
  bnd (nth a i3) fun d=>
  bnd (nth b i3) fun e=>
  bnd (sS d e) fun f=>
  if f=true then
   chk (I64 (i3+1))<|
   c (i3+1)
  else
   some false
 else
  some true
def rF (a b:List ek)(c:Int->Option Bool)(v:Int):Option Bool:=
 match v with
 |i3=>oT a b c i3
def xQ (a b:List ek):Option Bool:=
 if(a.length:Int)=(b.length:Int)then
  itr (rF a b) LF 0
 else
  some false
def rI (a b:eo):Option Bool:=
 bnd (xQ a.codes b.codes) fun c=>
 if c=true then
  if a.main=b.main then
   some true
  else
   some false
 else
  some false
def rJ (a b:LI)(c:Int->Option Bool)(i3:Int):Option Bool:=
 if i3<(a.length:Int)then
  bnd (nth a i3) fun d=>
  bnd (nth b i3) fun e=>
  if d=e then
   chk (I64 (i3+1))<|
   c (i3+1)
  else
   some false
 else
  some true
def oY (a b:LI)(c:Int->Option Bool)(v:Int):Option Bool:=
 match v with
 |i3=>rJ a b c i3
def gP (a b:LI):Option Bool:=
 if(a.length:Int)=(b.length:Int)then
  itr (oY a b) LF 0
 else
  some false
def fD (a b:ep):Option Bool:=
 if a.name=b.name then
  bnd (gP a.defines b.defines) fun c=>
  if c=true then
   bnd (gP a.uses b.uses) fun d=>
   if d=true then
    bnd (rI a.image b.image) fun e=>
    if e=true then
     some true
    else
     some false
   else
    some false
  else
   some false
 else
  some false
def nC (E4:PC->PC->Option Bool)(L5:List PC->List PC->Option Bool)(a b:PC):Option Bool:=
 if a.kind=b.kind then
  if a.number=b.number then
   bnd (gP a.params b.params) fun c=>
   if c=true then
    bnd (B2 RF a.datum b.datum) fun d=>
    if d=true then
     bnd (L5 a.kids b.kids) fun e=>
     if e=true then
      some true
     else
      some false
    else
     some false
   else
    some false
  else
   some false
 else
  some false
def oV (E4:PC->PC->Option Bool)(a b:List PC)(c:Int->Option Bool)(i5:Int):Option Bool:=
 if i5<(a.length:Int)then
  bnd (nth a i5) fun d=>
  bnd (nth b i5) fun e=>
  bnd (E4 d e) fun f=>
  if f=true then
   chk (I64 (i5+1))<|
   c (i5+1)
  else
   some false
 else
  some true
def rG (E4:PC->PC->Option Bool)(a b:List PC)(c:Int->Option Bool)(v:Int):Option Bool:=
 match v with
 |i5=>oV E4 a b c i5
def jG (E4:PC->PC->Option Bool)(L5:List PC->List PC->Option Bool)(a b:List PC):Option Bool:=
 if(a.length:Int)=(b.length:Int)then
  itr (rG E4 a b) LF 0
 else
  some false
mutual
def E4:Nat->PC->PC->Option Bool
 |0,_,_=>none
 |n+1,a,b=>nC (E4 n) (L5 n) a b
def L5:Nat->List PC->List PC->Option Bool
 |0,_,_=>none
 |n+1,a,b=>jG (E4 n) (L5 n) a b
end
def xR (a b:PUnit'):Option Bool:=
 if a.name=b.name then
  bnd (gP a.globals b.globals) fun c=>
  if c=true then
   bnd (E4 RF a.body b.body) fun d=>
   if d=true then
    some true
   else
    some false
  else
   some false
 else
  some false
def X0 (b:(Int×Int×LI)->Option (Int×LI))(a i4:Int)(a5:LI):Option (Int×LI):=
 if i4<(a5.length:Int)then
  bnd (nth a5 i4) fun c=>
  chk (I64 (a+1))<|
  chk (I64 (i4+1))<|
  b ((a+1),(i4+1),(a5.set i4.toNat a))
 else
  some (a,a5)
def pD (a:(Int×Int×LI)->Option (Int×LI))(v:Int×Int×LI):Option (Int×LI):=
 match v with
 |(b,i4,a5)=>X0 a b i4 a5
def aL (a:LI)(k:Int):Option (Int×LI):=
 itr pD LF (k,0,a)
def jO (a:PD)(k:Int):Option (Int×List PD):=
 bnd (y9 RF a.items k) fun b=>
 chk (b.2.length=a.items.length)<|
 some (b.1,b.2)
def T8 (C5:List PC->Int->Option (Int×List PC))(n:(Int×Int×List PC)->Option (Int×List PC))(i i5:Int)(a6:List PC):Option (Int×List PC):=
 if i5<(a6.length:Int)then
  bnd (nth a6 i5) fun d=>
  chk (I64 (i+1))<|
  bnd (nth (a6.set i5.toNat (PC.mk i d.number d.params d.datum d.kids)) i5) fun g=>
  chk (I64 ((i+1)+1))<|
  bnd (nth ((a6.set i5.toNat (PC.mk i d.number d.params d.datum d.kids)).set i5.toNat (PC.mk g.kind (i+1) g.params g.datum g.kids)) i5) fun c=>
  bnd (aL c.params ((i+1)+1)) fun e=>
  chk (e.2.length=c.params.length)<|
  bnd (nth (((a6.set i5.toNat (PC.mk i d.number d.params d.datum d.kids)).set i5.toNat (PC.mk g.kind (i+1) g.params g.datum g.kids)).set i5.toNat (PC.mk c.kind c.number e.2 c.datum c.kids)) i5) fun a=>
  chk (I64 (e.1+1))<|
  bnd (nth ((((a6.set i5.toNat (PC.mk i d.number d.params d.datum d.kids)).set i5.toNat (PC.mk g.kind (i+1) g.params g.datum g.kids)).set i5.toNat (PC.mk c.kind c.number e.2 c.datum c.kids)).set i5.toNat (PC.mk a.kind a.number a.params (PD.mk e.1 a.datum.number a.datum.text a.datum.items) a.kids)) i5) fun b=>
  chk (I64 ((e.1+1)+1))<|
  bnd (X6 ((e.1+1)+1)) fun l=>
  bnd (nth (((((a6.set i5.toNat (PC.mk i d.number d.params d.datum d.kids)).set i5.toNat (PC.mk g.kind (i+1) g.params g.datum g.kids)).set i5.toNat (PC.mk c.kind c.number e.2 c.datum c.kids)).set i5.toNat (PC.mk a.kind a.number a.params (PD.mk e.1 a.datum.number a.datum.text a.datum.items) a.kids)).set i5.toNat (PC.mk b.kind b.number b.params (PD.mk b.datum.kind (e.1+1) b.datum.text b.datum.items) b.kids)) i5) fun f=>
  chk (I64 (((e.1+1)+1)+1))<|
  bnd (nth ((((((a6.set i5.toNat (PC.mk i d.number d.params d.datum d.kids)).set i5.toNat (PC.mk g.kind (i+1) g.params g.datum g.kids)).set i5.toNat (PC.mk c.kind c.number e.2 c.datum c.kids)).set i5.toNat (PC.mk a.kind a.number a.params (PD.mk e.1 a.datum.number a.datum.text a.datum.items) a.kids)).set i5.toNat (PC.mk b.kind b.number b.params (PD.mk b.datum.kind (e.1+1) b.datum.text b.datum.items) b.kids)).set i5.toNat (PC.mk f.kind f.number f.params (PD.mk f.datum.kind f.datum.number l f.datum.items) f.kids)) i5) fun h=>
  bnd (y9 RF h.datum.items (((e.1+1)+1)+1)) fun k=>
  chk (k.2.length=h.datum.items.length)<|
  bnd (nth (((((((a6.set i5.toNat (PC.mk i d.number d.params d.datum d.kids)).set i5.toNat (PC.mk g.kind (i+1) g.params g.datum g.kids)).set i5.toNat (PC.mk c.kind c.number e.2 c.datum c.kids)).set i5.toNat (PC.mk a.kind a.number a.params (PD.mk e.1 a.datum.number a.datum.text a.datum.items) a.kids)).set i5.toNat (PC.mk b.kind b.number b.params (PD.mk b.datum.kind (e.1+1) b.datum.text b.datum.items) b.kids)).set i5.toNat (PC.mk f.kind f.number f.params (PD.mk f.datum.kind f.datum.number l f.datum.items) f.kids)).set i5.toNat (PC.mk h.kind h.number h.params (PD.mk h.datum.kind h.datum.number h.datum.text k.2) h.kids)) i5) fun j=>
  bnd (C5 j.kids k.1) fun m=>
  chk (m.2.length=j.kids.length)<|
  chk (I64 (i5+1))<|
  n (m.1,(i5+1),((((((((a6.set i5.toNat (PC.mk i d.number d.params d.datum d.kids)).set i5.toNat (PC.mk g.kind (i+1) g.params g.datum g.kids)).set i5.toNat (PC.mk c.kind c.number e.2 c.datum c.kids)).set i5.toNat (PC.mk a.kind a.number a.params (PD.mk e.1 a.datum.number a.datum.text a.datum.items) a.kids)).set i5.toNat (PC.mk b.kind b.number b.params (PD.mk b.datum.kind (e.1+1) b.datum.text b.datum.items) b.kids)).set i5.toNat (PC.mk f.kind f.number f.params (PD.mk f.datum.kind f.datum.number l f.datum.items) f.kids)).set i5.toNat (PC.mk h.kind h.number h.params (PD.mk h.datum.kind h.datum.number h.datum.text k.2) h.kids)).set i5.toNat (PC.mk j.kind j.number j.params j.datum m.2)))
 else
  some (i,a6)
def lM (C5:List PC->Int->Option (Int×List PC))(a:(Int×Int×List PC)->Option (Int×List PC))(v:Int×Int×List PC):Option (Int×List PC):=
 match v with
 |(b,i5,a6)=>T8 C5 a b i5 a6
def eF (C5:List PC->Int->Option (Int×List PC))(a:List PC)(k:Int):Option (Int×List PC):=
 itr (lM C5) LF (k,0,a)
def C5:Nat->List PC->Int->Option (Int×List PC)
 |0,_,_=>none
 |n+1,a,k=>eF (C5 n) a k
def nE (a:PC)(k:Int):Option (Int×LI×List PD×List PC):=
 bnd (aL a.params k) fun b=>
 chk (b.2.length=a.params.length)<|
 bnd (jO a.datum b.1) fun c=>
 chk (c.2.length=a.datum.items.length)<|
 bnd (C5 RF a.kids c.1) fun d=>
 chk (d.2.length=a.kids.length)<|
 some (d.1,b.2,c.2,d.2)
def nF (a:PUnit')(k:Int):Option (Int×LI×LI×List PD×List PC):=
 bnd (aL a.globals k) fun c=>
 chk (c.2.length=a.globals.length)<|
 bnd (nE a.body c.1) fun b=>
 chk (b.2.1.length=a.body.params.length)<|
 chk (b.2.2.1.length=a.body.datum.items.length)<|
 chk (b.2.2.2.length=a.body.kids.length)<|
 some (b.1,c.2,b.2.1,b.2.2.1,b.2.2.2)
def P7 (a:List ej)(l:(Int×Int×List ej)->Option (Int×List ej))(b i4:Int)(a5:List ej):Option (Int×List ej):=
 if i4<(a5.length:Int)then
  bnd (nth a5 i4) fun g=>
  chk (I64 (b+1))<|
  bnd (nth (a5.set i4.toNat (ej.mk b g.a g.d)) i4) fun i=>
  chk (I64 ((b+1)+1))<|
  bnd (nth ((a5.set i4.toNat (ej.mk b g.a g.d)).set i4.toNat (ej.mk i.op (b+1) i.d)) i4) fun e=>
  chk (I64 (((b+1)+1)+1))<|
  bnd (nth (((a5.set i4.toNat (ej.mk b g.a g.d)).set i4.toNat (ej.mk i.op (b+1) i.d)).set i4.toNat (ej.mk e.op e.a (PD.mk ((b+1)+1) e.d.number e.d.text e.d.items))) i4) fun c=>
  chk (I64 ((((b+1)+1)+1)+1))<|
  bnd (X6 ((((b+1)+1)+1)+1)) fun k=>
  bnd (nth ((((a5.set i4.toNat (ej.mk b g.a g.d)).set i4.toNat (ej.mk i.op (b+1) i.d)).set i4.toNat (ej.mk e.op e.a (PD.mk ((b+1)+1) e.d.number e.d.text e.d.items))).set i4.toNat (ej.mk c.op c.a (PD.mk c.d.kind (((b+1)+1)+1) c.d.text c.d.items))) i4) fun f=>
  chk (I64 (((((b+1)+1)+1)+1)+1))<|
  bnd (nth (((((a5.set i4.toNat (ej.mk b g.a g.d)).set i4.toNat (ej.mk i.op (b+1) i.d)).set i4.toNat (ej.mk e.op e.a (PD.mk ((b+1)+1) e.d.number e.d.text e.d.items))).set i4.toNat (ej.mk c.op c.a (PD.mk c.d.kind (((b+1)+1)+1) c.d.text c.d.items))).set i4.toNat (ej.mk f.op f.a (PD.mk f.d.kind f.d.number k f.d.items))) i4) fun h=>
  bnd (y9 RF h.d.items (((((b+1)+1)+1)+1)+1)) fun j=>
  chk (j.2.length=h.d.items.length)<|
  chk (I64 (i4+1))<|
  l (j.1,(i4+1),((((((a5.set i4.toNat (ej.mk b g.a g.d)).set i4.toNat (ej.mk i.op (b+1) i.d)).set i4.toNat (ej.mk e.op e.a (PD.mk ((b+1)+1) e.d.number e.d.text e.d.items))).set i4.toNat (ej.mk c.op c.a (PD.mk c.d.kind (((b+1)+1)+1) c.d.text c.d.items))).set i4.toNat (ej.mk f.op f.a (PD.mk f.d.kind f.d.number k f.d.items))).set i4.toNat (ej.mk h.op h.a (PD.mk h.d.kind h.d.number h.d.text j.2))))
 else
  some (b,a5)
def jS (a:List ej)(b:(Int×Int×List ej)->Option (Int×List ej))(v:Int×Int×List ej):Option (Int×List ej):=
 match v with
 |(c,i4,a5)=>P7 a b c i4 a5
def gB (a:List ej)(k:Int):Option (Int×List ej):=
 itr (jS a) LF (k,0,a)
def S9 (g:(Int×Int×List ek)->Option (Int×List ek))(a i4:Int)(a5:List ek):Option (Int×List ek):=
 if i4<(a5.length:Int)then
  bnd (nth a5 i4) fun b=>
  chk (I64 (a+1))<|
  bnd (nth (a5.set i4.toNat (ek.mk a b.slots b.captures b.instrs)) i4) fun c=>
  chk (I64 ((a+1)+1))<|
  bnd (nth ((a5.set i4.toNat (ek.mk a b.slots b.captures b.instrs)).set i4.toNat (ek.mk c.params (a+1) c.captures c.instrs)) i4) fun e=>
  chk (I64 (((a+1)+1)+1))<|
  bnd (nth (((a5.set i4.toNat (ek.mk a b.slots b.captures b.instrs)).set i4.toNat (ek.mk c.params (a+1) c.captures c.instrs)).set i4.toNat (ek.mk e.params e.slots ((a+1)+1) e.instrs)) i4) fun d=>
  bnd (gB d.instrs (((a+1)+1)+1)) fun f=>
  chk (f.2.length=d.instrs.length)<|
  chk (I64 (i4+1))<|
  g (f.1,(i4+1),((((a5.set i4.toNat (ek.mk a b.slots b.captures b.instrs)).set i4.toNat (ek.mk c.params (a+1) c.captures c.instrs)).set i4.toNat (ek.mk e.params e.slots ((a+1)+1) e.instrs)).set i4.toNat (ek.mk d.params d.slots d.captures f.2)))
 else
  some (a,a5)
def lL (a:(Int×Int×List ek)->Option (Int×List ek))(v:Int×Int×List ek):Option (Int×List ek):=
 match v with
 |(b,i4,a5)=>S9 a b i4 a5
def jN (a:List ek)(k:Int):Option (Int×List ek):=
 itr lL LF (k,0,a)
def jR (a:eo)(k:Int):Option (Int×List ek):=
 bnd (jN a.codes k) fun b=>
 chk (b.2.length=a.codes.length)<|
 some (b.1,b.2)
def gC (a:ep)(k:Int):Option (Int×LI×LI×List ek):=
 bnd (aL a.defines k) fun b=>
 chk (b.2.length=a.defines.length)<|
 bnd (aL a.uses b.1) fun c=>
 chk (c.2.length=a.uses.length)<|
 bnd (jR a.image c.1) fun d=>
 chk (d.2.length=a.image.codes.length)<|
 some (d.1,b.2,c.2,d.2)
def P5 (a:List ej)(e:(Int×Int)->Option Int)(b i4:Int):Option Int:=
 if i4<(a.length:Int)then
  bnd (nth a i4) fun i=>
  if i.op=b then
   chk (I64 (b+1))<|
   bnd (nth a i4) fun j=>
   if j.a=(b+1)then
    chk (I64 ((b+1)+1))<|
    bnd (nth a i4) fun k=>
    if k.d.kind=((b+1)+1)then
     chk (I64 (((b+1)+1)+1))<|
     bnd (nth a i4) fun l=>
     if l.d.number=(((b+1)+1)+1)then
      chk (I64 ((((b+1)+1)+1)+1))<|
      bnd (nth a i4) fun f=>
      bnd (X6 ((((b+1)+1)+1)+1)) fun g=>
      if f.d.text=g then
       chk (I64 (((((b+1)+1)+1)+1)+1))<|
       bnd (nth a i4) fun h=>
       bnd (A7 RF h.d.items (((((b+1)+1)+1)+1)+1)) fun c=>
       if c<0 then
        some (-1)
       else
        chk (I64 (i4+1))<|
        e (c,(i4+1))
      else
       some (-1)
     else
      some (-1)
    else
     some (-1)
   else
    some (-1)
  else
   some (-1)
 else
  some b
def jM (a:List ej)(b:(Int×Int)->Option Int)(v:Int×Int):Option Int:=
 match v with
 |(c,i4)=>P5 a b c i4
def gA (a:List ej)(k:Int):Option Int:=
 itr (jM a) LF (k,0)
def S8 (a:List ek)(d:(Int×Int)->Option Int)(b i4:Int):Option Int:=
 if i4<(a.length:Int)then
  bnd (nth a i4) fun e=>
  if e.params=b then
   chk (I64 (b+1))<|
   bnd (nth a i4) fun f=>
   if f.slots=(b+1)then
    chk (I64 ((b+1)+1))<|
    bnd (nth a i4) fun g=>
    if g.captures=((b+1)+1)then
     chk (I64 (((b+1)+1)+1))<|
     bnd (nth a i4) fun h=>
     bnd (gA h.instrs (((b+1)+1)+1)) fun c=>
     if c<0 then
      some (-1)
     else
      chk (I64 (i4+1))<|
      d (c,(i4+1))
    else
     some (-1)
   else
    some (-1)
  else
   some (-1)
 else
  some b
def lJ (a:List ek)(b:(Int×Int)->Option Int)(v:Int×Int):Option Int:=
 match v with
 |(c,i4)=>S8 a b c i4
def jK (a:List ek)(k:Int):Option Int:=
 itr (lJ a) LF (k,0)
def fE (a:eo)(k:Int):Option Int:=
 bnd (jK a.codes k) fun b=>
 if b<0 then
  some (-1)
 else
  some b
def W9 (a:LI)(c:(Int×Int)->Option Int)(b i4:Int):Option Int:=
 if i4<(a.length:Int)then
  bnd (nth a i4) fun d=>
  if d=b then
   chk (I64 (b+1))<|
   chk (I64 (i4+1))<|
   c ((b+1),(i4+1))
  else
   some (-1)
 else
  some b
def pB (a:LI)(b:(Int×Int)->Option Int)(v:Int×Int):Option Int:=
 match v with
 |(c,i4)=>W9 a b c i4
def bV (a:LI)(k:Int):Option Int:=
 itr (pB a) LF (k,0)
def dN (a:ep)(k:Int):Option Int:=
 bnd (bV a.defines k) fun b=>
 if b<0 then
  some (-1)
 else
  bnd (bV a.uses b) fun c=>
  if c<0 then
   some (-1)
  else
   bnd (fE a.image c) fun d=>
   if d<0 then
    some (-1)
   else
    some d
def X1 (aU:PUnit'):Option Bool:=
 bnd (xT aU 1048576) fun l=>
 if l<0 then
  some true
 else
  bnd (fK aU) fun m=>
  bnd (dZ m) fun e=>
  bnd (fK aU) fun d=>
  bnd (bR d) fun b=>
  bnd (fD b.1 e.1) fun n=>
  if n=true then
   if b.2=e.2 then
    bnd (fK aU) fun o=>
    bnd (xR d o) fun p=>
    if p=true then
     bnd (nF d 1) fun c=>
     chk (c.2.1.length=d.globals.length)<|
     chk (c.2.2.1.length=d.body.params.length)<|
     chk (c.2.2.2.1.length=d.body.datum.items.length)<|
     chk (c.2.2.2.2.length=d.body.kids.length)<|
     if c.1<0 then
      some false
     else
      bnd (fD b.1 e.1) fun i=>
      if i=true then
       if b.2=e.2 then
        bnd (gC b.1 1) fun a=>
        chk (a.2.1.length=b.1.defines.length)<|
        chk (a.2.2.1.length=b.1.uses.length)<|
        chk (a.2.2.2.length=b.1.image.codes.length)<|
        bnd (dN (ep.mk b.1.name a.2.1 a.2.2.1 (eo.mk a.2.2.2 b.1.image.main)) 1) fun f=>
        if f<0 then
         some false
        else
         if f=a.1 then
          bnd (fK aU) fun j=>
          bnd (bR j) fun g=>
          bnd (fD g.1 e.1) fun k=>
          if k=true then
           if g.2=e.2 then
            bnd (dN (ep.mk b.1.name a.2.1 a.2.2.1 (eo.mk a.2.2.2 b.1.image.main)) 1) fun h=>
            if h<0 then
             some false
            else
             if h=a.1 then
              some true
             else
              some false
           else
            some false
          else
           some false
         else
          some false
       else
        some false
      else
       some false
    else
     some false
   else
    some false
  else
   some false
end Go.Abs
