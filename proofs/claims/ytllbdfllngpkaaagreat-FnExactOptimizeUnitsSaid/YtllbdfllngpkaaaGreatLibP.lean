
import Derived.Test.YtllbdfllngpkaaaGreatLibD
import Derived.Test.YtllbdfllngpkaaaGreatLibE
set_option linter.unusedVariables false
set_option linter.unusedSimpArgs false
namespace Go.Abs
set_option linter.unusedVariables false
def G3 (ab:LI)(x_1:Int)(x4:MI):Option (LI×(Option (MI))):=
 if(mget x4 x_1)=0 then
  chk ((ab.length+([x_1]:LI).length) * 8≤140737488355328)<|
  some ((ab++([x_1]:LI)),(some (mput x4 x_1 1)))
 else
  some (ab,(some x4))
def G2 (ab:LI)(be:Option (MI))(x_1:Int):Option (LI×(Option (MI))):=
 if be=none then
  G3 ab x_1 ([]:MI)
 else
  bnd (be) fun x4=>
  G3 ab x_1 x4
def Y2 (c:PC)(x14:LI)(x15:Option (MI))(go19:(Int×(MI))→Option ((MI)×LI×(Option (MI))))(x17:Int)(bt:MI):Option ((MI)×LI×(Option (MI))):=
 if x17<(c.params.length:Int)then
  bnd (nth c.params x17) fun x20=>
  chk (I64 ((mget bt x20)-1))<|
  chk (I64 (x17+1))<|
  go19 ((x17+1),(mput bt x20 ((mget bt x20)-1)))
 else
  some (bt,x14,x15)
def mS (c:PC)(x14:LI)(x15:Option (MI))(go:(Int×(MI))→Option ((MI)×LI×(Option (MI))))(v:Int×(MI)):Option ((MI)×LI×(Option (MI))):=
 match v with
 |(x17,bt)=>Y2 c x14 x15 go x17 bt
def Y1 (u6:PC→MI→LI→Option (MI)→Option ((MI)×LI×(Option (MI))))(c:PC)(go16:(Int×(MI)×LI×(Option (MI)))→Option ((MI)×LI×(Option (MI))))(x12:Int)(bw:MI)(x14:LI)(x15:Option (MI)):Option ((MI)×LI×(Option (MI))):=
 if x12<(c.kids.length:Int)then
  bnd (nth c.kids x12) fun x17=>
  bnd (u6 x17 bw x14 x15) fun x18=>
  chk (I64 (x12+1))<|
  go16 ((x12+1),x18.1,x18.2.1,x18.2.2)
 else
  itr (mS c x14 x15) LF (0,bw)
def mR (u6:PC→MI→LI→Option (MI)→Option ((MI)×LI×(Option (MI))))(c:PC)(go:(Int×(MI)×LI×(Option (MI)))→Option ((MI)×LI×(Option (MI))))(v:Int×(MI)×LI×(Option (MI))):Option ((MI)×LI×(Option (MI))):=
 match v with
 |(x12,bw,x14,x15)=>Y1 u6 c go x12 bw x14 x15
def Y0 (u6:PC→MI→LI→Option (MI)→Option ((MI)×LI×(Option (MI))))(c:PC)(x7:LI)(x8:Option (MI))(go11:(Int×(MI))→Option ((MI)×LI×(Option (MI))))(x9:Int)(bo:MI):Option ((MI)×LI×(Option (MI))):=
 if x9<(c.params.length:Int)then
  bnd (nth c.params x9) fun x12=>
  chk (I64 ((mget bo x12)+1))<|
  chk (I64 (x9+1))<|
  go11 ((x9+1),(mput bo x12 ((mget bo x12)+1)))
 else
  itr (mR u6 c) LF (0,bo,x7,x8)
def tB (u6:PC→MI→LI→Option (MI)→Option ((MI)×LI×(Option (MI))))(c:PC)(x7:LI)(x8:Option (MI))(go:(Int×(MI))→Option ((MI)×LI×(Option (MI))))(v:Int×(MI)):Option ((MI)×LI×(Option (MI))):=
 match v with
 |(x9,bo)=>Y0 u6 c x7 x8 go x9 bo
def bC (u6:PC→MI→LI→Option (MI)→Option ((MI)×LI×(Option (MI))))(c:PC)(ah:MI)(x7:LI)(x8:Option (MI)):Option ((MI)×LI×(Option (MI))):=
 itr (tB u6 c x7 x8) LF (0,ah)
def X9 (u6:PC→MI→LI→Option (MI)→Option ((MI)×LI×(Option (MI))))(c:PC)(ah:MI)(ab:LI)(be:Option (MI))(x6:Bool):Option ((MI)×LI×(Option (MI))):=
 if x6=true then
  bnd (G2 ab be c.number) fun x7=>
  bC u6 c ah x7.1 x7.2
 else
  bC u6 c ah ab be
def kX (u6:PC→MI→LI→Option (MI)→Option ((MI)×LI×(Option (MI))))(c:PC)(ah:MI)(ab:LI)(be:Option (MI)):Option ((MI)×LI×(Option (MI))):=
 if c.kind=2 then
  X9 u6 c ah ab be (decide ((mget ah c.number)=0))
 else
  if c.kind=4 then
   X9 u6 c ah ab be (decide ((mget ah c.number)=0))
  else
   X9 u6 c ah ab be false
def u6:Nat→PC→MI→LI→Option (MI)→Option ((MI)×LI×(Option (MI)))
 |0,_,_,_,_=>none
 |n+1,c,ah,ab,be=>kX (u6 n) c ah ab be
def Q7 (c:PC):Option (LI):=
 bnd (u6 RF c ([]:MI) [] (none:Option (MI))) fun x2=>
 some x2.2.1
def gA (A1:PD→PD→Option Bool)(a b:PD)(go5:Int→Option Bool)(x4:Int):Option Bool:=
 if x4<(a.items.length:Int)then
  bnd (nth a.items x4) fun x6=>
  bnd (nth b.items x4) fun x7=>
  bnd (A1 x6 x7) fun x8=>
  if x8=true then
   chk (I64 (x4+1))<|
   go5 (x4+1)
  else
   some false
 else
  some true
def jP (A1:PD→PD→Option Bool)(a b:PD)(go:Int→Option Bool)(v:Int):Option Bool:=
 match v with
 |x4=>gA A1 a b go x4
def cI (A1:PD→PD→Option Bool)(a b:PD):Option Bool:=
 if a.kind=b.kind then
  if a.number=b.number then
   if a.text=b.text then
    if(a.items.length:Int)=(b.items.length:Int)then
     itr (jP A1 a b) LF 0
    else
     some false
   else
    some false
  else
   some false
 else
  some false
def A1:Nat→PD→PD→Option Bool
 |0,_,_=>none
 |n+1,a,b=>cI (A1 n) a b
def kY (b:Int):Option Bool:=
 if b≥48 then
  some (decide (b≤57))
 else
  some false
def E8 (b:Int)(x2:Bool):Option Bool:=
 if x2=true then
  some true
 else
  if b=33 then
   some true
  else
   if b=63 then
    some true
   else
    if b=42 then
     some true
    else
     if b=60 then
      some true
     else
      if b=62 then
       some true
      else
       if b=61 then
        some true
       else
        if b=47 then
         some true
        else
         if b=43 then
          some true
         else
          if b=45 then
           some true
          else
           if b=46 then
            some true
           else
            if b=95 then
             some true
            else
             some false
def eP (b:Int):Option Bool:=
 if b≥97 then
  if b≤122 then
   E8 b true
  else
   if b≥48 then
    E8 b (decide (b≤57))
   else
    E8 b false
 else
  if b≥48 then
   E8 b (decide (b≤57))
  else
   E8 b false
def O8 (s:LB)(go4:Int→Option Bool)(i3:Int):Option Bool:=
 if i3<(s.length:Int)then
  bnd (nth s i3) fun x5=>
  bnd (eP (x5.toNat:Int)) fun x6=>
  if x6=true then
   chk (I64 (i3+1))<|
   go4 (i3+1)
  else
   some false
 else
  some true
def mF (s:LB)(go:Int→Option Bool)(v:Int):Option Bool:=
 match v with
 |i3=>O8 s go i3
def G1 (s:LB)(x2:Bool):Option Bool:=
 if x2=true then
  some false
 else
  itr (mF s) LF 0
def fO (s:LB):Option Bool:=
 if(s.length:Int)<1 then
  G1 s true
 else
  if(s.length:Int)>16 then
   G1 s true
  else
   bnd (nth s 0) fun x2=>
   bnd (kY (x2.toNat:Int)) fun x3=>
   if x3=true then
    G1 s true
   else
    bnd (nth s 0) fun x4=>
    if(x4.toNat:Int)=45 then
     if(s.length:Int)>1 then
      bnd (nth s 1) fun x5=>
      bnd (kY (x5.toNat:Int)) fun x6=>
      G1 s x6
     else
      G1 s false
    else
     G1 s false
def K3 (s:LB)(go3:Int→Option Bool)(i2:Int):Option Bool:=
 if i2<(s.length:Int)then
  bnd (nth s i2) fun x4=>
  if(x4.toNat:Int)<32 then
   some false
  else
   bnd (nth s i2) fun x5=>
   if(x5.toNat:Int)>126 then
    some false
   else
    bnd (nth s i2) fun x6=>
    if(x6.toNat:Int)=34 then
     some false
    else
     chk (I64 (i2+1))<|
     go3 (i2+1)
 else
  some true
def gM (s:LB)(go:Int→Option Bool)(v:Int):Option Bool:=
 match v with
 |i2=>K3 s go i2
def eO (s:LB):Option Bool:=
 if(s.length:Int)>20 then
  some false
 else
  itr (gM s) LF 0
def gL (kind number:Int)(text:LB)(items:Int):Option Bool:=
 if kind=0 then
  if number=0 then
   some (decide (text=([]:LB)))
  else
   some false
 else
  if kind=1 then
   if number=0 then
    if items=0 then
     bnd (fO text) fun x5=>
     some x5
    else
     some false
   else
    some false
  else
   if kind=2 then
    if number≥(-999999999)then
     if number≤999999999 then
      if text=([]:LB)then
       some (decide (items=0))
      else
       some false
     else
      some false
    else
     some false
   else
    if kind=3 then
     if number=0 then
      if text=([]:LB)then
       some (decide (items=0))
      else
       some false
     else
      if number=1 then
       if text=([]:LB)then
        some (decide (items=0))
       else
        some false
      else
       some false
    else
     if kind=4 then
      if number=0 then
       if items=0 then
        bnd (eO text) fun x5=>
        some x5
       else
        some false
      else
       some false
     else
      some false
def U3 (D6:PD→Int→Int→Option (Bool×Int))(d:PD)(deep:Int)(go8:(Int×Int)→Option (Bool×Int))(x6 bj:Int):Option (Bool×Int):=
 if x6<(d.items.length:Int)then
  bnd (nth d.items x6) fun x9=>
  chk (I64 (deep+1))<|
  bnd (D6 x9 (deep+1) bj) fun x10=>
  if x10.1=true then
   chk (I64 (x6+1))<|
   go8 ((x6+1),x10.2)
  else
   some (false,x10.2)
 else
  some (true,bj)
def pO (D6:PD→Int→Int→Option (Bool×Int))(d:PD)(deep:Int)(go:(Int×Int)→Option (Bool×Int))(v:Int×Int):Option (Bool×Int):=
 match v with
 |(x6,bj)=>U3 D6 d deep go x6 bj
def gI (D6:PD→Int→Int→Option (Bool×Int))(d:PD)(deep ba:Int):Option (Bool×Int):=
 chk (I64 (ba+1))<|
 if deep>20 then
  some (false,(ba+1))
 else
  if(ba+1)>600 then
   some (false,(ba+1))
  else
   bnd (gL d.kind d.number d.text (d.items.length:Int)) fun x5=>
   if x5=true then
    itr (pO D6 d deep) LF (0,(ba+1))
   else
    some (false,(ba+1))
def D6:Nat→PD→Int→Int→Option (Bool×Int)
 |0,_,_,_=>none
 |n+1,d,deep,ba=>gI (D6 n) d deep ba
def pI (d:PD):Option Bool:=
 bnd (D6 RF d 1 0) fun x2=>
 some x2.1
def z7:Option (List (LB)):=
 some ([([43]:LB),([45]:LB),([42]:LB),([61]:LB),([60]:LB),([99,111,110,115]:LB),([99,97,114]:LB),([99,100,114]:LB),([110,117,108,108,63]:LB),([112,97,105,114,63]:LB),([110,117,109,98,101,114,63]:LB),([101,113,63]:LB),([110,111,116]:LB),([100,105,115,112,108,97,121]:LB)]:List (LB))
def M7 (c:PC)(go5:Int→Option Bool)(x4:Int):Option Bool:=
 if x4<(c.kids.length:Int)then
  bnd (nth c.kids x4) fun x6=>
  if x6.kind=8 then
   some false
  else
   chk (I64 (x4+1))<|
   go5 (x4+1)
 else
  some true
def eD (c:PC)(go:Int→Option Bool)(v:Int):Option Bool:=
 match v with
 |x4=>M7 c go x4
def E7 (c:PC)(x3:Bool):Option Bool:=
 if x3=true then
  some false
 else
  if c.kind=1 then
   if(c.params.length:Int)=0 then
    if(c.kids.length:Int)=0 then
     bnd (pI c.datum) fun x4=>
     some x4
    else
     some false
   else
    some false
  else
   if c.kind=2 then
    if(c.params.length:Int)=0 then
     some (decide ((c.kids.length:Int)=0))
    else
     some false
   else
    if c.kind=3 then
     if(c.params.length:Int)=0 then
      if(c.kids.length:Int)=0 then
       if c.number≥0 then
        bnd (z7) fun x4=>
        some (decide (c.number<(x4.length:Int)))
       else
        some false
      else
       some false
     else
      some false
    else
     if c.kind=4 then
      if(c.params.length:Int)=0 then
       some (decide ((c.kids.length:Int)=1))
      else
       some false
     else
      if c.kind=5 then
       if(c.params.length:Int)≤8 then
        some (decide ((c.kids.length:Int)=1))
       else
        some false
      else
       if c.kind=6 then
        if(c.params.length:Int)=0 then
         if(c.kids.length:Int)≥1 then
          some (decide ((c.kids.length:Int)≤9))
         else
          some false
        else
         some false
       else
        if c.kind=7 then
         if(c.params.length:Int)=0 then
          some (decide ((c.kids.length:Int)=3))
         else
          some false
        else
         if c.kind=8 then
          if(c.params.length:Int)=0 then
           if(c.kids.length:Int)<2 then
            some false
           else
            if(c.kids.length:Int)>60 then
             some false
            else
             itr (eD c) LF 0
          else
           some false
         else
          if c.kind=9 then
           if(c.params.length:Int)≥1 then
            if(c.params.length:Int)≤60 then
             if(c.kids.length:Int)≥1 then
              some (decide ((c.kids.length:Int)≤60))
             else
              some false
            else
             some false
           else
            some false
          else
           if c.kind=10 then
            if(c.params.length:Int)=0 then
             some (decide ((c.kids.length:Int)=1))
            else
             some false
           else
            if c.kind=11 then
             if(c.params.length:Int)=1 then
              some (decide ((c.kids.length:Int)=1))
             else
              some false
            else
             some false
def P6 (c:PC)(x2:Bool):Option Bool:=
 if x2=true then
  some false
 else
  if c.number=0 then
   E7 c false
  else
   if c.kind=2 then
    E7 c false
   else
    if c.kind=3 then
     E7 c false
    else
     E7 c (!decide (c.kind=4))
def gG (c:PC):Option Bool:=
 if c.kind=1 then
  P6 c false
 else
  bnd (A1 RF c.datum (PD.mk 0 0 ([]:LB) [])) fun x2=>
  P6 c (!x2)
def M6 (z4:PC→Int→Int→Option (Bool×Int))(c:PC)(deep:Int)(go8:(Int×Int)→Option (Bool×Int))(x6 bj:Int):Option (Bool×Int):=
 if x6<(c.kids.length:Int)then
  bnd (nth c.kids x6) fun x9=>
  chk (I64 (deep+1))<|
  bnd (z4 x9 (deep+1) bj) fun x10=>
  if x10.1=true then
   chk (I64 (x6+1))<|
   go8 ((x6+1),x10.2)
  else
   some (false,x10.2)
 else
  some (true,bj)
def jU (z4:PC→Int→Int→Option (Bool×Int))(c:PC)(deep:Int)(go:(Int×Int)→Option (Bool×Int))(v:Int×Int):Option (Bool×Int):=
 match v with
 |(x6,bj)=>M6 z4 c deep go x6 bj
def cM (z4:PC→Int→Int→Option (Bool×Int))(c:PC)(deep ba:Int):Option (Bool×Int):=
 chk (I64 (ba+1))<|
 if deep>150 then
  some (false,(ba+1))
 else
  if(ba+1)>3000 then
   some (false,(ba+1))
  else
   bnd (gG c) fun x5=>
   if x5=true then
    itr (jU z4 c deep) LF (0,(ba+1))
   else
    some (false,(ba+1))
def z4:Nat→PC→Int→Int→Option (Bool×Int)
 |0,_,_,_=>none
 |n+1,c,deep,ba=>cM (z4 n) c deep ba
def A9 (x2:Int)(go4:(Int×(MI))→Option Bool)(x5:LI)(go8:(Int×(MI))→Option Bool)(x6:Int)(cr:MI):Option Bool:=
 if x6<(x5.length:Int)then
  bnd (nth x5 x6) fun x9=>
  if x9<0 then
   some false
  else
   if x9>99999 then
    some false
   else
    if(mget cr x9)=1 then
     some false
    else
     chk (I64 (x6+1))<|
     go8 ((x6+1),(mput cr x9 1))
 else
  chk (I64 (x2+1))<|
  go4 ((x2+1),cr)
def L5 (x2:Int)(go4:(Int×(MI))→Option Bool)(x5:LI)(go:(Int×(MI))→Option Bool)(v:Int×(MI)):Option Bool:=
 match v with
 |(x6,cr)=>A9 x2 go4 x5 go x6 cr
def A8 (bb:List (LI))(go4:(Int×(MI))→Option Bool)(x2:Int)(seen3:MI):Option Bool:=
 if x2<(bb.length:Int)then
  bnd (nth bb x2) fun x5=>
  itr (L5 x2 go4 x5) LF (0,seen3)
 else
  some true
def D1 (bb:List (LI))(go:(Int×(MI))→Option Bool)(v:Int×(MI)):Option Bool:=
 match v with
 |(x2,seen3)=>A8 bb go x2 seen3
def A5 (bb:List (LI)):Option Bool:=
 itr (D1 bb) LF (0,([]:MI))
def mL (E6:PC→LI→Option (LI))(c:PC)(go6:(Int×LI)→Option (LI))(x4:Int)(ai:LI):Option (LI):=
 if x4<(c.kids.length:Int)then
  bnd (nth c.kids x4) fun x7=>
  bnd (E6 x7 ai) fun x8=>
  chk (I64 (x4+1))<|
  go6 ((x4+1),x8)
 else
  some ai
def pK (E6:PC→LI→Option (LI))(c:PC)(go:(Int×LI)→Option (LI))(v:Int×LI):Option (LI):=
 match v with
 |(x4,ai)=>mL E6 c go x4 ai
def gD (E6:PC→LI→Option (LI))(c:PC)(out:LI):Option (LI):=
 chk ((out.length+c.params.length) * 8≤140737488355328)<|
 itr (pK E6 c) LF (0,(out++c.params))
def E6:Nat→PC→LI→Option (LI)
 |0,_,_=>none
 |n+1,c,out=>gD (E6 n) c out
def N9 (c:PC):Option (LI):=
 bnd (E6 RF c []) fun x2=>
 some x2
def X8 (bq:MI)(x9:LI)(go11:Int→Option Bool)(x10:Int):Option Bool:=
 if x10<(x9.length:Int)then
  bnd (nth x9 x10) fun x12=>
  if(mget bq x12)=0 then
   some false
  else
   chk (I64 (x10+1))<|
   go11 (x10+1)
 else
  some true
def gB (bq:MI)(x9:LI)(go:Int→Option Bool)(v:Int):Option Bool:=
 match v with
 |x10=>X8 bq x9 go x10
def X7 (c:PC)(globals:LI)(go8:(Int×(MI))→Option Bool)(x6:Int)(bq:MI):Option Bool:=
 if x6<(globals.length:Int)then
  bnd (nth globals x6) fun x9=>
  chk (I64 (x6+1))<|
  go8 ((x6+1),(mput bq x9 1))
 else
  bnd (Q7 c) fun x9=>
  itr (gB bq x9) LF 0
def mE (c:PC)(globals:LI)(go:(Int×(MI))→Option Bool)(v:Int×(MI)):Option Bool:=
 match v with
 |(x6,bq)=>X7 c globals go x6 bq
def vP (c:PC)(globals:LI):Option Bool:=
 bnd (z4 RF c 1 0) fun x3=>
 if x3.1=true then
  bnd (N9 c) fun x4=>
  bnd (A5 ([globals,x4]:List (LI))) fun x5=>
  if x5=true then
   itr (mE c globals) LF (0,([]:MI))
  else
   some false
 else
  some false
def aG (ab:LI):Option (LI):=
 chk (ab.length * 8≤140737488355328)<|
 some ab
def cO (s:LB):Option Bool:=
 bnd (fO s) fun x2=>
 if x2=true then
  some (decide ((s.length:Int)≤8))
 else
  some false
def kV (u:PUnit')(globals:LI):Option Bool:=
 bnd (cO u.name) fun x3=>
 if x3=true then
  bnd (A5 ([globals,u.globals]:List (LI))) fun x4=>
  if x4=true then
   bnd (aG globals) fun x5=>
   chk ((x5.length+u.globals.length) * 8≤140737488355328)<|
   bnd (vP u.body (x5++u.globals)) fun x6=>
   some x6
  else
   some false
 else
  some false
def dM (w5:PC→Option Int)(c:PC)(go5:(Int×Int)→Option Int)(x3 x4:Int):Option Int:=
 if x4<(c.kids.length:Int)then
  bnd (nth c.kids x4) fun x6=>
  bnd (w5 x6) fun x7=>
  chk (I64 (x4+1))<|
  go5 ((max x3 x7),(x4+1))
 else
  chk (I64 (x3+1))<|
  some (x3+1)
def oR (w5:PC→Option Int)(c:PC)(go:(Int×Int)→Option Int)(v:Int×Int):Option Int:=
 match v with
 |(x3,x4)=>dM w5 c go x3 x4
def cG (w5:PC→Option Int)(c:PC):Option Int:=
 itr (oR w5 c) LF (0,0)
def w5:Nat→PC→Option Int
 |0,_=>none
 |n+1,c=>cG (w5 n) c
def fF (z8:PC→Option Int)(c:PC)(go5:(Int×Int)→Option Int)(x3 x4:Int):Option Int:=
 if x4<(c.kids.length:Int)then
  bnd (nth c.kids x4) fun x6=>
  bnd (z8 x6) fun x7=>
  chk (I64 (x3+x7))<|
  chk (I64 (x4+1))<|
  go5 ((x3+x7),(x4+1))
 else
  some x3
def pJ (z8:PC→Option Int)(c:PC)(go:(Int×Int)→Option Int)(v:Int×Int):Option Int:=
 match v with
 |(x3,x4)=>fF z8 c go x3 x4
def eC (z8:PC→Option Int)(c:PC):Option Int:=
 itr (pJ z8 c) LF (1,0)
def z8:Nat→PC→Option Int
 |0,_=>none
 |n+1,c=>eC (z8 n) c
def vW (c:PC):Option Int:=
 if c.kind=8 then
  some (c.kids.length:Int)
 else
  some 1
def aO (ae:List PUnit')(go8:(Int×Int×Int×(List ((LB)×Int))×LI×LI)→Option Bool)(bk am x4:Int)(br:List ((LB)×Int))(ar bl:LI):Option Bool:=
 if x4<(ae.length:Int)then
  bnd (nth ae x4) fun x9=>
  if(mget br x9.name)=1 then
   some false
  else
   bnd (kV x9 ar) fun x10=>
   if x10=true then
    bnd (w5 RF x9.body) fun x11=>
    if x11≥150 then
     some false
    else
     chk ((ar.length+x9.globals.length) * 8≤140737488355328)<|
     chk ((bl.length+x9.globals.length) * 8≤140737488355328)<|
     bnd (N9 x9.body) fun x12=>
     chk (((bl++x9.globals).length+x12.length) * 8≤140737488355328)<|
     bnd (z8 RF x9.body) fun x13=>
     chk (I64 (bk+x13))<|
     bnd (vW x9.body) fun x14=>
     chk (I64 (am+x14))<|
     chk (I64 (x4+1))<|
     go8 ((bk+x13),(am+x14),(x4+1),(mput br x9.name 1),(ar++x9.globals),((bl++x9.globals)++x12))
   else
    some false
 else
  bnd (A5 ([bl]:List (LI))) fun x9=>
  if x9=true then
   if(ar.length:Int)≤60 then
    if bk≤3000 then
     some (decide (am≤60))
    else
     some false
   else
    some false
  else
   some false
def mJ (ae:List PUnit')(go:(Int×Int×Int×(List ((LB)×Int))×LI×LI)→Option Bool)(v:Int×Int×Int×(List ((LB)×Int))×LI×LI):Option Bool:=
 match v with
 |(bk,am,x4,br,ar,bl)=>aO ae go bk am x4 br ar bl
def kW (ae:List PUnit'):Option Bool:=
 if(ae.length:Int)>12 then
  some false
 else
  itr (mJ ae) LF (1,0,0,([]:List ((LB)×Int)),[],[])
end Go.Abs

namespace Go.Abs
set_option linter.unusedVariables false
def M4 (ae:List PUnit')(go4:(Int×LI)→Option (LI))(x2:Int)(aj:LI):Option (LI):=
 if x2<(ae.length:Int)then
  bnd (nth ae x2) fun x5=>
  chk ((aj.length+x5.globals.length) * 8≤140737488355328)<|
  chk (I64 (x2+1))<|
  go4 ((x2+1),(aj++x5.globals))
 else
  some aj
def jQ (ae:List PUnit')(go:(Int×LI)→Option (LI))(v:Int×LI):Option (LI):=
 match v with
 |(x2,aj)=>M4 ae go x2 aj
def dN (ae:List PUnit'):Option (LI):=
 itr (jQ ae) LF (0,[])
def bE (x2:Int)(go4:(Int×(MI))→Option (MI))(x5:LI)(go8:(Int×(MI))→Option (MI))(x6:Int)(bm:MI):Option (MI):=
 if x6<(x5.length:Int)then
  bnd (nth x5 x6) fun x9=>
  chk (I64 (x6+1))<|
  go8 ((x6+1),(mput bm x9 1))
 else
  chk (I64 (x2+1))<|
  go4 ((x2+1),bm)
def yA (x2:Int)(go4:(Int×(MI))→Option (MI))(x5:LI)(go:(Int×(MI))→Option (MI))(v:Int×(MI)):Option (MI):=
 match v with
 |(x6,bm)=>bE x2 go4 x5 go x6 bm
def bD (bb:List (LI))(go4:(Int×(MI))→Option (MI))(x2:Int)(aj:MI):Option (MI):=
 if x2<(bb.length:Int)then
  bnd (nth bb x2) fun x5=>
  itr (yA x2 go4 x5) LF (0,aj)
 else
  some aj
def xZ (bb:List (LI))(go:(Int×(MI))→Option (MI))(v:Int×(MI)):Option (MI):=
 match v with
 |(x2,aj)=>bD bb go x2 aj
def af8 (bb:List (LI)):Option (MI):=
 itr (xZ bb) LF (0,([]:MI))
def U0 (t7:PC→LI→Option (MI)→Option (LI×(Option (MI))))(c:PC)(go10:(Int×LI×(Option (MI)))→Option (LI×(Option (MI))))(x7:Int)(x8:LI)(x9:Option (MI)):Option (LI×(Option (MI))):=
 if x7<(c.kids.length:Int)then
  bnd (nth c.kids x7) fun x11=>
  bnd (t7 x11 x8 x9) fun x12=>
  chk (I64 (x7+1))<|
  go10 ((x7+1),x12.1,x12.2)
 else
  some (x8,x9)
def pL (t7:PC→LI→Option (MI)→Option (LI×(Option (MI))))(c:PC)(go:(Int×LI×(Option (MI)))→Option (LI×(Option (MI))))(v:Int×LI×(Option (MI))):Option (LI×(Option (MI))):=
 match v with
 |(x7,x8,x9)=>U0 t7 c go x7 x8 x9
def S7 (t7:PC→LI→Option (MI)→Option (LI×(Option (MI))))(c:PC)(x5:LI)(x6:Option (MI)):Option (LI×(Option (MI))):=
 itr (pL t7 c) LF (0,x5,x6)
def U1 (t7:PC→LI→Option (MI)→Option (LI×(Option (MI))))(c:PC)(go8:(Int×LI×(Option (MI)))→Option (LI×(Option (MI))))(x5:Int)(x6:LI)(x7:Option (MI)):Option (LI×(Option (MI))):=
 if x5<(c.params.length:Int)then
  bnd (nth c.params x5) fun x9=>
  bnd (G2 x6 x7 x9) fun x10=>
  chk (I64 (x5+1))<|
  go8 ((x5+1),x10.1,x10.2)
 else
  S7 t7 c x6 x7
def pM (t7:PC→LI→Option (MI)→Option (LI×(Option (MI))))(c:PC)(go:(Int×LI×(Option (MI)))→Option (LI×(Option (MI))))(v:Int×LI×(Option (MI))):Option (LI×(Option (MI))):=
 match v with
 |(x5,x6,x7)=>U1 t7 c go x5 x6 x7
def gE (t7:PC→LI→Option (MI)→Option (LI×(Option (MI))))(c:PC)(ab:LI)(be:Option (MI)):Option (LI×(Option (MI))):=
 if c.kind=4 then
  bnd (G2 ab be c.number) fun x5=>
  S7 t7 c x5.1 x5.2
 else
  if c.kind=9 then
   itr (pM t7 c) LF (0,ab,be)
  else
   S7 t7 c ab be
def t7:Nat→PC→LI→Option (MI)→Option (LI×(Option (MI)))
 |0,_,_,_=>none
 |n+1,c,ab,be=>gE (t7 n) c ab be
def V4 (c:PC):Option (LI):=
 bnd (t7 RF c [] (none:Option (MI))) fun x2=>
 some x2.1
def cL (s9:PD→Option PD)(D0:List PD→Option (List PD))(d:PD):Option PD:=
 bnd (D0 d.items) fun x4=>
 some (PD.mk d.kind d.number d.text x4)
def P5 (s9:PD→Option PD)(ab:List PD)(go6:(Int×List PD)→Option (List PD))(x4:Int)(ai:List PD):Option (List PD):=
 if x4<(ab.length:Int)then
  bnd (nth ab x4) fun x7=>
  bnd (s9 x7) fun x8=>
  chk ((ai.length+([x8]:List PD).length) * 56≤140737488355328)<|
  chk (I64 (x4+1))<|
  go6 ((x4+1),(ai++([x8]:List PD)))
 else
  some ai
def mN (s9:PD→Option PD)(ab:List PD)(go:(Int×List PD)→Option (List PD))(v:Int×List PD):Option (List PD):=
 match v with
 |(x4,ai)=>P5 s9 ab go x4 ai
def eM (s9:PD→Option PD)(D0:List PD→Option (List PD))(ab:List PD):Option (List PD):=
 itr (mN s9 ab) LF (0,[])
mutual
def s9:Nat→PD→Option PD
 |0,_=>none
 |n+1,d=>cL (s9 n) (D0 n) d
def D0:Nat→List PD→Option (List PD)
 |0,_=>none
 |n+1,ab=>eM (s9 n) (D0 n) ab
end
def P4 (r7:PC→Option PC)(c:PC)(x3:LI)(x4:PD)(go7:(Int×List PC)→Option PC)(x5:Int)(x6:List PC):Option PC:=
 if x5<(c.kids.length:Int)then
  bnd (nth c.kids x5) fun x8=>
  bnd (r7 x8) fun x9=>
  chk ((x6.length+([x9]:List PC).length) * 120≤140737488355328)<|
  chk (I64 (x5+1))<|
  go7 ((x5+1),(x6++([x9]:List PC)))
 else
  some (PC.mk c.kind c.number x3 x4 x6)
def mM (r7:PC→Option PC)(c:PC)(x3:LI)(x4:PD)(go:(Int×List PC)→Option PC)(v:Int×List PC):Option PC:=
 match v with
 |(x5,x6)=>P4 r7 c x3 x4 go x5 x6
def eK (r7:PC→Option PC)(c:PC):Option PC:=
 bnd (aG c.params) fun x3=>
 bnd (s9 RF c.datum) fun x4=>
 itr (mM r7 c x3 x4) LF (0,[])
def r7:Nat→PC→Option PC
 |0,_=>none
 |n+1,c=>eK (r7 n) c
def iT (c:PC):Option Bool:=
 if c.kind=1 then
  some (decide ((c.datum.items.length:Int)=0))
 else
  some false
def ab5 (aq:Int):Option Bool:=
 bnd (z7) fun x2=>
 if aq≥0 then
  if aq<(x2.length:Int)then
   bnd (nth x2 aq) fun x3=>
   if x3=([99,111,110,115]:LB)then
    some false
   else
    bnd (nth x2 aq) fun x4=>
    some (!decide (x4=([100,105,115,112,108,97,121]:LB)))
  else
   some false
 else
  some false
def vO (aq:Int):Option Int:=
 bnd (z7) fun x2=>
 if aq<0 then
  some (-1)
 else
  if aq≥(x2.length:Int)then
   some (-1)
  else
   bnd (nth x2 aq) fun x3=>
   if x3=([43]:LB)then
    some 2
   else
    if x3=([45]:LB)then
     some 2
    else
     if x3=([42]:LB)then
      some 2
     else
      if x3=([61]:LB)then
       some 2
      else
       if x3=([60]:LB)then
        some 2
       else
        if x3=([99,111,110,115]:LB)then
         some 2
        else
         if x3=([101,113,63]:LB)then
          some 2
         else
          some 1
def mV (D7:PD→List PPair→Option (PVal×List PPair))(d:PD)(go7:(Int×List PPair×PVal)→Option (PVal×List PPair))(i4:Int)(bc:List PPair)(cg:PVal):Option (PVal×List PPair):=
 if i4≥0 then
  bnd (nth d.items i4) fun x8=>
  bnd (D7 x8 bc) fun x9=>
  chk ((x9.2.length+([(PPair.mk x9.1 cg)]:List PPair).length) * 64≤140737488355328)<|
  chk (I64 (((x9.2++([(PPair.mk x9.1 cg)]:List PPair)).length:Int)-1))<|
  chk (I64 (i4-1))<|
  go7 ((i4-1),(x9.2++([(PPair.mk x9.1 cg)]:List PPair)),(PVal.mk 7 (((x9.2++([(PPair.mk x9.1 cg)]:List PPair)).length:Int)-1) ([]:LB)))
 else
  some (cg,bc)
def iU (D7:PD→List PPair→Option (PVal×List PPair))(d:PD)(go:(Int×List PPair×PVal)→Option (PVal×List PPair))(v:Int×List PPair×PVal):Option (PVal×List PPair):=
 match v with
 |(i4,bc,cg)=>mV D7 d go i4 bc cg
def gN (D7:PD→List PPair→Option (PVal×List PPair))(d:PD)(an:List PPair):Option (PVal×List PPair):=
 if d.kind=1 then
  some ((PVal.mk 4 0 d.text),an)
 else
  if d.kind=2 then
   some ((PVal.mk 3 d.number ([]:LB)),an)
  else
   if d.kind=3 then
    some ((PVal.mk 2 d.number ([]:LB)),an)
   else
    if d.kind=4 then
     some ((PVal.mk 5 0 d.text),an)
    else
     chk (I64 ((d.items.length:Int)-1))<|
     itr (iU D7 d) LF (((d.items.length:Int)-1),an,(PVal.mk 1 0 ([]:LB)))
def D7:Nat→PD→List PPair→Option (PVal×List PPair)
 |0,_,_=>none
 |n+1,d,an=>gN (D7 n) d an
def O9 (b:Bool):Option PVal:=
 if b=true then
  some (PVal.mk 2 1 ([]:LB))
 else
  some (PVal.mk 2 0 ([]:LB))
def pN (x_1:PVal):Option Bool:=
 if x_1.kind=2 then
  some (decide (x_1.number=0))
 else
  some false
def O2 (bn:List PVal)(an:List PPair)(x5:LB)(x6:PVal)(x7:Bool):Option (PVal×LB):=
 if x7=true then
  if x6.kind=7 then
   if x5=([99,97,114]:LB)then
    bnd (nth an x6.number) fun x8=>
    some (x8.h,([]:LB))
   else
    bnd (nth an x6.number) fun x8=>
    some (x8.t,([]:LB))
  else
   chk (x5.length+([58,32,98,97,100,32,97,114,103,117,109,101,110,116]:LB).length≤9223372036854775807)<|
   some ((PVal.mk 0 0 ([]:LB)),(x5++([58,32,98,97,100,32,97,114,103,117,109,101,110,116]:LB)))
 else
  bnd (nth bn 1) fun x8=>
  if x6.kind=3 then
   if x8.kind=3 then
    if x5=([61]:LB)then
     bnd (O9 (decide (x6.number=x8.number))) fun x9=>
     some (x9,([]:LB))
    else
     if x5=([60]:LB)then
      bnd (O9 (decide (x6.number<x8.number))) fun x9=>
      some (x9,([]:LB))
     else
      if x5=([43]:LB)then
       chk (I64 (x6.number+x8.number))<|
       if(x6.number+x8.number)<(-999999999)then
        some ((PVal.mk 0 0 ([]:LB)),([110,117,109,98,101,114,32,116,111,111,32,108,97,114,103,101]:LB))
       else
        if(x6.number+x8.number)>999999999 then
         some ((PVal.mk 0 0 ([]:LB)),([110,117,109,98,101,114,32,116,111,111,32,108,97,114,103,101]:LB))
        else
         some ((PVal.mk 3 (x6.number+x8.number) ([]:LB)),([]:LB))
      else
       if x5=([45]:LB)then
        chk (I64 (x6.number-x8.number))<|
        if(x6.number-x8.number)<(-999999999)then
         some ((PVal.mk 0 0 ([]:LB)),([110,117,109,98,101,114,32,116,111,111,32,108,97,114,103,101]:LB))
        else
         if(x6.number-x8.number)>999999999 then
          some ((PVal.mk 0 0 ([]:LB)),([110,117,109,98,101,114,32,116,111,111,32,108,97,114,103,101]:LB))
         else
          some ((PVal.mk 3 (x6.number-x8.number) ([]:LB)),([]:LB))
       else
        if x5=([42]:LB)then
         chk (I64 (x6.number * x8.number))<|
         if(x6.number * x8.number)<(-999999999)then
          some ((PVal.mk 0 0 ([]:LB)),([110,117,109,98,101,114,32,116,111,111,32,108,97,114,103,101]:LB))
         else
          if(x6.number * x8.number)>999999999 then
           some ((PVal.mk 0 0 ([]:LB)),([110,117,109,98,101,114,32,116,111,111,32,108,97,114,103,101]:LB))
          else
           some ((PVal.mk 3 (x6.number * x8.number) ([]:LB)),([]:LB))
        else
         if 0<(-999999999)then
          some ((PVal.mk 0 0 ([]:LB)),([110,117,109,98,101,114,32,116,111,111,32,108,97,114,103,101]:LB))
         else
          if 0>999999999 then
           some ((PVal.mk 0 0 ([]:LB)),([110,117,109,98,101,114,32,116,111,111,32,108,97,114,103,101]:LB))
          else
           some ((PVal.mk 3 0 ([]:LB)),([]:LB))
   else
    chk (x5.length+([58,32,98,97,100,32,97,114,103,117,109,101,110,116]:LB).length≤9223372036854775807)<|
    some ((PVal.mk 0 0 ([]:LB)),(x5++([58,32,98,97,100,32,97,114,103,117,109,101,110,116]:LB)))
  else
   chk (x5.length+([58,32,98,97,100,32,97,114,103,117,109,101,110,116]:LB).length≤9223372036854775807)<|
   some ((PVal.mk 0 0 ([]:LB)),(x5++([58,32,98,97,100,32,97,114,103,117,109,101,110,116]:LB)))
def Q9 (aq:Int)(bn:List PVal)(an:List PPair):Option (PVal×LB):=
 bnd (z7) fun x4=>
 bnd (nth x4 aq) fun x5=>
 bnd (nth bn 0) fun x6=>
 if x5=([110,117,108,108,63]:LB)then
  bnd (O9 (decide (x6.kind=1))) fun x7=>
  some (x7,([]:LB))
 else
  if x5=([112,97,105,114,63]:LB)then
   bnd (O9 (decide (x6.kind=7))) fun x7=>
   some (x7,([]:LB))
  else
   if x5=([110,117,109,98,101,114,63]:LB)then
    bnd (O9 (decide (x6.kind=3))) fun x7=>
    some (x7,([]:LB))
   else
    if x5=([110,111,116]:LB)then
     bnd (pN x6) fun x7=>
     bnd (O9 x7) fun x8=>
     some (x8,([]:LB))
    else
     if x5=([101,113,63]:LB)then
      bnd (nth bn 1) fun x7=>
      bnd (O9 (decide (x6=x7))) fun x8=>
      some (x8,([]:LB))
     else
      if x5=([99,97,114]:LB)then
       O2 bn an x5 x6 true
      else
       O2 bn an x5 x6 (decide (x5=([99,100,114]:LB)))
def eN (c x3:PC)(go8:(Int×List PVal)→Option (PC×Bool))(x6:Int)(cq:List PVal):Option (PC×Bool):=
 if x6<((c.kids.drop (1:Int).toNat).length:Int)then
  bnd (nth (c.kids.drop (1:Int).toNat) x6) fun x9=>
  bnd (iT x9) fun x10=>
  if x10=true then
   bnd (D7 RF x9.datum []) fun x11=>
   chk ((cq.length+([x11.1]:List PVal).length) * 32≤140737488355328)<|
   chk (I64 (x6+1))<|
   go8 ((x6+1),(cq++([x11.1]:List PVal)))
  else
   some ((PC.mk 0 0 [] (PD.mk 0 0 ([]:LB) []) []),false)
 else
  bnd (Q9 x3.number cq []) fun x9=>
  if x9.2=([]:LB)then
   if x9.1.kind=1 then
    some ((PC.mk 1 0 [] (PD.mk 0 0 ([]:LB) []) []),true)
   else
    if x9.1.kind=2 then
     some ((PC.mk 1 0 [] (PD.mk 3 x9.1.number ([]:LB) []) []),true)
    else
     if x9.1.kind=3 then
      some ((PC.mk 1 0 [] (PD.mk 2 x9.1.number ([]:LB) []) []),true)
     else
      some ((PC.mk 0 0 [] (PD.mk 0 0 ([]:LB) []) []),false)
  else
   some ((PC.mk 0 0 [] (PD.mk 0 0 ([]:LB) []) []),false)
def tA (c x3:PC)(go:(Int×List PVal)→Option (PC×Bool))(v:Int×List PVal):Option (PC×Bool):=
 match v with
 |(x6,cq)=>eN c x3 go x6 cq
def vU (c:PC):Option (PC×Bool):=
 if c.kind=6 then
  bnd (nth c.kids 0) fun x2=>
  if x2.kind=3 then
   bnd (nth c.kids 0) fun x3=>
   bnd (ab5 x3.number) fun x4=>
   if x4=true then
    chk (I64 ((c.kids.length:Int)-1))<|
    bnd (vO x3.number) fun x5=>
    if((c.kids.length:Int)-1)=x5 then
     chk (0≤(1:Int)∧(1:Int)≤c.kids.length)<|
     itr (tA c x3) LF (0,[])
    else
     some ((PC.mk 0 0 [] (PD.mk 0 0 ([]:LB) []) []),false)
   else
    some ((PC.mk 0 0 [] (PD.mk 0 0 ([]:LB) []) []),false)
  else
   some ((PC.mk 0 0 [] (PD.mk 0 0 ([]:LB) []) []),false)
 else
  some ((PC.mk 0 0 [] (PD.mk 0 0 ([]:LB) []) []),false)
def bU (c:PC)(aa:MI):Option Bool:=
 bnd (iT c) fun x3=>
 if x3=true then
  some true
 else
  if c.kind=3 then
   some true
  else
   if c.kind=2 then
    some (decide ((mget aa c.number)=0))
   else
    some false
def I6 (o3:PC→Int→PC→Option PC)(c:PC)(x_1:Int)(av x6:PC)(go9:(Int×List PC)→Option PC)(x7:Int)(x8:List PC):Option PC:=
 if x7<(c.kids.length:Int)then
  bnd (nth c.kids x7) fun x10=>
  bnd (o3 x10 x_1 av) fun x11=>
  chk ((x8.length+([x11]:List PC).length) * 120≤140737488355328)<|
  chk (I64 (x7+1))<|
  go9 ((x7+1),(x8++([x11]:List PC)))
 else
  some (PC.mk x6.kind x6.number x6.params x6.datum x8)
def K4 (o3:PC→Int→PC→Option PC)(c:PC)(x_1:Int)(av x6:PC)(go:(Int×List PC)→Option PC)(v:Int×List PC):Option PC:=
 match v with
 |(x7,x8)=>I6 o3 c x_1 av x6 go x7 x8
def O0 (o3:PC→Int→PC→Option PC)(c:PC)(x_1:Int)(av:PC)(x5:Bool):Option PC:=
 if x5=true then
  bnd (r7 RF av) fun x6=>
  some x6
 else
  bnd (r7 RF (PC.mk c.kind c.number c.params c.datum [])) fun x6=>
  itr (K4 o3 c x_1 av x6) LF (0,x6.kids)
def Y4 (o3:PC→Int→PC→Option PC)(c:PC)(x_1:Int)(av:PC):Option PC:=
 if c.kind=2 then
  O0 o3 c x_1 av (decide (c.number=x_1))
 else
  O0 o3 c x_1 av false
def o3:Nat→PC→Int→PC→Option PC
 |0,_,_,_=>none
 |n+1,c,x_1,av=>Y4 (o3 n) c x_1 av
def K1 (c x4:PC)(go18:(Int×Int×Int×Int×Int×LB×LI×List PD×List PC)→Option (PC×Bool))(x9 bu ax bh bg:Int)(bi:LB)(x15:LI)(x16:List PD)(x17:List PC):Option (PC×Bool):=
 if x9<(x4.params.length:Int)then
  bnd (nth x4.params x9) fun x19=>
  chk (I64 (x9+1))<|
  bnd (nth c.kids (x9+1)) fun x20=>
  bnd (o3 RF (PC.mk bu ax x15 (PD.mk bh bg bi x16) x17) x19 x20) fun x21=>
  chk (I64 (x9+1))<|
  go18 ((x9+1),x21.kind,x21.number,x21.datum.kind,x21.datum.number,x21.datum.text,x21.params,x21.datum.items,x21.kids)
 else
  some ((PC.mk bu ax x15 (PD.mk bh bg bi x16) x17),true)
def cQ (c x4:PC)(go:(Int×Int×Int×Int×Int×LB×LI×List PD×List PC)→Option (PC×Bool))(v:Int×Int×Int×Int×Int×LB×LI×List PD×List PC):Option (PC×Bool):=
 match v with
 |(x9,bu,ax,bh,bg,bi,x15,x16,x17)=>K1 c x4 go x9 bu ax bh bg bi x15 x16 x17
def V6 (c:PC)(aa:MI)(x4:PC)(go6:Int→Option (PC×Bool))(x5:Int):Option (PC×Bool):=
 if x5<(x4.params.length:Int)then
  bnd (nth x4.params x5) fun x7=>
  if(mget aa x7)=1 then
   some ((PC.mk 0 0 [] (PD.mk 0 0 ([]:LB) []) []),false)
  else
   chk (I64 (x5+1))<|
   bnd (nth c.kids (x5+1)) fun x8=>
   bnd (bU x8 aa) fun x9=>
   if x9=true then
    chk (I64 (x5+1))<|
    go6 (x5+1)
   else
    some ((PC.mk 0 0 [] (PD.mk 0 0 ([]:LB) []) []),false)
 else
  bnd (nth x4.kids 0) fun x7=>
  bnd (r7 RF x7) fun x8=>
  itr (cQ c x4) LF (0,x8.kind,x8.number,x8.datum.kind,x8.datum.number,x8.datum.text,x8.params,x8.datum.items,x8.kids)
def cP (c:PC)(aa:MI)(x4:PC)(go:Int→Option (PC×Bool))(v:Int):Option (PC×Bool):=
 match v with
 |x5=>V6 c aa x4 go x5
def R0 (c:PC)(x6:Bool):Option (PC×Bool):=
 if x6=true then
  bnd (nth c.kids 2) fun x7=>
  bnd (r7 RF x7) fun x8=>
  some (x8,true)
 else
  bnd (nth c.kids 1) fun x7=>
  bnd (r7 RF x7) fun x8=>
  some (x8,true)
def R1 (x3:Int)(go5:(Int×List PC)→Option (PC×Bool))(cx:List PC):Option (PC×Bool):=
 chk (I64 (x3+1))<|
 go5 ((x3+1),cx)
def R2 (x3:Int)(aw:List PC)(go5:(Int×List PC)→Option (PC×Bool))(x6:PC)(x8:Bool):Option (PC×Bool):=
 if x8=true then
  bnd (r7 RF x6) fun x9=>
  chk ((aw.length+([x9]:List PC).length) * 120≤140737488355328)<|
  R1 x3 go5 (aw++([x9]:List PC))
 else
  R1 x3 go5 aw
def M8 (c:PC)(x3:Int)(aw:List PC)(go5:(Int×List PC)→Option (PC×Bool))(x6:PC)(idle7:Bool):Option (PC×Bool):=
 if idle7=true then
  chk (I64 (x3+1))<|
  R2 x3 aw go5 x6 (decide ((x3+1)=(c.kids.length:Int)))
 else
  R2 x3 aw go5 x6 true
def K2 (c:PC)(go5:(Int×List PC)→Option (PC×Bool))(x3:Int)(aw:List PC):Option (PC×Bool):=
 if x3<(c.kids.length:Int)then
  bnd (nth c.kids x3) fun x6=>
  if x6.kind=1 then
   M8 c x3 aw go5 x6 true
  else
   if x6.kind=3 then
    M8 c x3 aw go5 x6 true
   else
    M8 c x3 aw go5 x6 (decide (x6.kind=5))
 else
  if(aw.length:Int)=(c.kids.length:Int)then
   some ((PC.mk 0 0 [] (PD.mk 0 0 ([]:LB) []) []),false)
  else
   if(aw.length:Int)=1 then
    bnd (nth aw 0) fun x6=>
    some (x6,true)
   else
    some ((PC.mk 8 0 [] (PD.mk 0 0 ([]:LB) []) aw),true)
def cR (c:PC)(go:(Int×List PC)→Option (PC×Bool))(v:Int×List PC):Option (PC×Bool):=
 match v with
 |(x3,aw)=>K2 c go x3 aw
def bV (c:PC)(aa:MI):Option (PC×Bool):=
 if c.kind=6 then
  bnd (vU c) fun x3=>
  if x3.2=true then
   some (x3.1,true)
  else
   bnd (nth c.kids 0) fun x4=>
   if x4.kind=5 then
    chk (I64 ((c.kids.length:Int)-1))<|
    if(x4.params.length:Int)=((c.kids.length:Int)-1)then
     itr (cP c aa x4) LF 0
    else
     some ((PC.mk 0 0 [] (PD.mk 0 0 ([]:LB) []) []),false)
   else
    some ((PC.mk 0 0 [] (PD.mk 0 0 ([]:LB) []) []),false)
 else
  if c.kind=7 then
   bnd (nth c.kids 0) fun x3=>
   bnd (iT x3) fun x4=>
   if x4=true then
    bnd (nth c.kids 0) fun x5=>
    if x5.datum.kind=3 then
     R0 c (decide (x5.datum.number=0))
    else
     R0 c false
   else
    some ((PC.mk 0 0 [] (PD.mk 0 0 ([]:LB) []) []),false)
  else
   if c.kind=8 then
    itr (cR c) LF (0,[])
   else
    some ((PC.mk 0 0 [] (PD.mk 0 0 ([]:LB) []) []),false)
def lA (x6:Int)(go8:(Int×Int×List PC)→Option (PC×Int))(x9:Int)(x10:List PC):Option (PC×Int):=
 chk (I64 (x6+1))<|
 go8 (x9,(x6+1),x10)
def lB (x5 x6:Int)(x7:List PC)(go8:(Int×Int×List PC)→Option (PC×Int))(x10:PC×Int)(x11:Bool):Option (PC×Int):=
 if x11=true then
  chk ((x7.length+x10.1.kids.length) * 120≤140737488355328)<|
  lA x6 go8 (x5+x10.2) (x7++x10.1.kids)
 else
  chk ((x7.length+([x10.1]:List PC).length) * 120≤140737488355328)<|
  lA x6 go8 (x5+x10.2) (x7++([x10.1]:List PC))
def gK (c:PC)(aa:MI)(x4:PC)(x5:Int)(x7:List PC)(x9:Bool):Option (PC×Int):=
 if x9=true then
  bnd (r7 RF c) fun x10=>
  some (x10,0)
 else
  bnd (bV (PC.mk x4.kind x4.number x4.params x4.datum x7) aa) fun x10=>
  if x10.2=true then
   chk (I64 (x5+1))<|
   some (x10.1,(x5+1))
  else
   some ((PC.mk x4.kind x4.number x4.params x4.datum x7),x5)
def lC (aL:PC→MI→Option (PC×Int))(c:PC)(aa:MI)(x4:PC)(go8:(Int×Int×List PC)→Option (PC×Int))(x5 x6:Int)(x7:List PC):Option (PC×Int):=
 if x6<(c.kids.length:Int)then
  bnd (nth c.kids x6) fun x9=>
  bnd (aL x9 aa) fun x10=>
  chk (I64 (x5+x10.2))<|
  if c.kind=8 then
   lB x5 x6 x7 go8 x10 (decide (x10.1.kind=8))
  else
   lB x5 x6 x7 go8 x10 false
 else
  if c.kind=8 then
   gK c aa x4 x5 x7 (decide ((x7.length:Int)>60))
  else
   gK c aa x4 x5 x7 false
def vX (aL:PC→MI→Option (PC×Int))(c:PC)(aa:MI)(x4:PC)(go:(Int×Int×List PC)→Option (PC×Int))(v:Int×Int×List PC):Option (PC×Int):=
 match v with
 |(x5,x6,x7)=>lC aL c aa x4 go x5 x6 x7
def vY (aL:PC→MI→Option (PC×Int))(c:PC)(aa:MI):Option (PC×Int):=
 bnd (r7 RF (PC.mk c.kind c.number c.params c.datum [])) fun x4=>
 itr (vX aL c aa x4) LF (0,0,x4.kids)
def aL:Nat→PC→MI→Option (PC×Int)
 |0,_,_=>none
 |n+1,c,aa=>vY (aL n) c aa
def kZ (c:PC)(globals:LI):Option (PC×Int):=
 bnd (V4 c) fun x3=>
 bnd (Q7 c) fun x4=>
 bnd (af8 ([x3,x4,globals]:List (LI))) fun x5=>
 bnd (aL RF c x5) fun x6=>
 some (x6.1,x6.2)
def Y3 (globals:LI)(go13:(Int×Int×Int×Int×Int×LB×LI×List PD×List PC)→Option (PC×Int))(ay c5 c6 c7 c8:Int)(c9:LB)(x10:LI)(x11:List PD)(x12:List PC):Option (PC×Int):=
 bnd (kZ (PC.mk c5 c6 x10 (PD.mk c7 c8 c9 x11) x12) globals) fun x14=>
 chk (I64 (ay+x14.2))<|
 if x14.2=0 then
  some (x14.1,(ay+x14.2))
 else
  go13 ((ay+x14.2),x14.1.kind,x14.1.number,x14.1.datum.kind,x14.1.datum.number,x14.1.datum.text,x14.1.params,x14.1.datum.items,x14.1.kids)
def jV (globals:LI)(go:(Int×Int×Int×Int×Int×LB×LI×List PD×List PC)→Option (PC×Int))(v:Int×Int×Int×Int×Int×LB×LI×List PD×List PC):Option (PC×Int):=
 match v with
 |(ay,c5,c6,c7,c8,c9,x10,x11,x12)=>Y3 globals go ay c5 c6 c7 c8 c9 x10 x11 x12
def gJ (c:PC)(globals:LI):Option (PC×Int):=
 bnd (kZ c globals) fun x3=>
 chk (I64 (0+x3.2))<|
 if x3.2=0 then
  some (x3.1,(0+x3.2))
 else
  itr (jV globals) LF ((0+x3.2),x3.1.kind,x3.1.number,x3.1.datum.kind,x3.1.datum.number,x3.1.datum.text,x3.1.params,x3.1.datum.items,x3.1.kids)
def M5 (ae:List PUnit')(x3:LI)(go7:(Int×Int×List PUnit')→Option (List PUnit'×Int))(ay x5:Int)(az:List PUnit'):Option (List PUnit'×Int):=
 if x5<(ae.length:Int)then
  bnd (nth ae x5) fun x8=>
  bnd (gJ x8.body x3) fun x9=>
  chk (I64 (ay+x9.2))<|
  bnd (aG x8.globals) fun x10=>
  chk ((az.length+([(PUnit'.mk x8.name x10 x9.1)]:List PUnit').length) * 160≤140737488355328)<|
  chk (I64 (x5+1))<|
  go7 ((ay+x9.2),(x5+1),(az++([(PUnit'.mk x8.name x10 x9.1)]:List PUnit')))
 else
  some (az,ay)
def cJ (ae:List PUnit')(x3:LI)(go:(Int×Int×List PUnit')→Option (List PUnit'×Int))(v:Int×Int×List PUnit'):Option (List PUnit'×Int):=
 match v with
 |(ay,x5,az)=>M5 ae x3 go ay x5 az
def Q8 (ae:List PUnit'):Option (List PUnit'×Int):=
 bnd (kW ae) fun x2=>
 if x2=true then
  bnd (dN ae) fun x3=>
  itr (cJ ae x3) LF (0,0,[])
 else
  some ([],0)
end Go.Abs

namespace Go.Abs
set_option linter.unusedVariables false
def dR (J0:PC→Int→Option (Bool×Int))(c:PC)(i4 au:Int)(go6:(Int×Int)→Option (Bool×Int))(x7:Bool):Option (Bool×Int):=
 if x7=true then
  bnd (nth c.kids i4) fun x8=>
  bnd (J0 x8 au) fun x9=>
  chk (I64 (i4+1))<|
  go6 ((i4+1),x9.2)
 else
  some ((decide (au≥0)),au)
def bO (J0:PC→Int→Option (Bool×Int))(c:PC)(go6:(Int×Int)→Option (Bool×Int))(i4 au:Int):Option (Bool×Int):=
 if i4<(c.kids.length:Int)then
  dR J0 c i4 au go6 (decide (au≥0))
 else
  dR J0 c i4 au go6 false
def yP (J0:PC→Int→Option (Bool×Int))(c:PC)(go:(Int×Int)→Option (Bool×Int))(v:Int×Int):Option (Bool×Int):=
 match v with
 |(i4,au)=>bO J0 c go i4 au
def qI (J0:PC→Int→Option (Bool×Int))(c:PC)(ap:Int):Option (Bool×Int):=
 chk (I64 (ap-1))<|
 itr (yP J0 c) LF (0,(ap-1))
def J0:Nat→PC→Int→Option (Bool×Int)
 |0,_,_=>none
 |n+1,c,ap=>qI (J0 n) c ap
def lK (c:PC):Option Bool:=
 bnd (J0 RF c 3000) fun x2=>
 some x2.1
def jZ (ab:LI)(x_1:Int)(go4:Int→Option Bool)(x3:Int):Option Bool:=
 if x3<(ab.length:Int)then
  bnd (nth ab x3) fun x5=>
  if x5=x_1 then
   some true
  else
   chk (I64 (x3+1))<|
   go4 (x3+1)
 else
  some false
def wR (ab:LI)(x_1:Int)(go:Int→Option Bool)(v:Int):Option Bool:=
 match v with
 |x3=>jZ ab x_1 go x3
def I8 (ab:LI)(x_1:Int):Option Bool:=
 itr (wR ab x_1) LF 0
def bA (ab:LI):Option (LI):=
 chk ((([]:LI).length+ab.length) * 8≤140737488355328)<|
 some (([]:LI)++ab)
def eV (c:PC):Option Bool:=
 if c.kind=2 then
  some true
 else
  some (decide (c.kind=4))
def qK (z9:PC→LI→LI→Option (LI))(c:PC)(x7:LI)(go10:(Int×LI)→Option (LI))(x8:Int)(out9:LI):Option (LI):=
 if x8<(c.kids.length:Int)then
  bnd (nth c.kids x8) fun x11=>
  bnd (z9 x11 (x7++c.params) out9) fun x12=>
  chk (I64 (x8+1))<|
  go10 ((x8+1),x12)
 else
  some out9
def uE (z9:PC→LI→LI→Option (LI))(c:PC)(x7:LI)(go:(Int×LI)→Option (LI))(v:Int×LI):Option (LI):=
 match v with
 |(x8,out9)=>qK z9 c x7 go x8 out9
def bP (z9:PC→LI→LI→Option (LI))(c:PC)(ah az:LI):Option (LI):=
 bnd (bA ah) fun x7=>
 chk ((x7.length+c.params.length) * 8≤140737488355328)<|
 itr (uE z9 c x7) LF (0,az)
def Z8 (z9:PC→LI→LI→Option (LI))(c:PC)(ah out:LI)(x5:Bool):Option (LI):=
 if x5=true then
  chk ((out.length+([c.number]:LI).length) * 8≤140737488355328)<|
  bP z9 c ah (out++([c.number]:LI))
 else
  bP z9 c ah out
def lJ (z9:PC→LI→LI→Option (LI))(c:PC)(ah out:LI):Option (LI):=
 bnd (eV c) fun x5=>
 if x5=true then
  bnd (I8 ah c.number) fun x6=>
  if x6=true then
   Z8 z9 c ah out false
  else
   bnd (I8 out c.number) fun x7=>
   Z8 z9 c ah out (!x7)
 else
  Z8 z9 c ah out false
def z9:Nat→PC→LI→LI→Option (LI)
 |0,_,_,_=>none
 |n+1,c,ah,out=>lJ (z9 n) c ah out
def nL (c:PC)(x6:LI)(go9:(Int×LI)→Option (LI))(x7:Int)(out8:LI):Option (LI):=
 if x7<(c.kids.length:Int)then
  bnd (nth c.kids x7) fun x10=>
  bnd (z9 RF x10 (x6++c.params) out8) fun x11=>
  chk (I64 (x7+1))<|
  go9 ((x7+1),x11)
 else
  some out8
def qJ (c:PC)(x6:LI)(go:(Int×LI)→Option (LI))(v:Int×LI):Option (LI):=
 match v with
 |(x7,out8)=>nL c x6 go x7 out8
def Z7 (c:PC)(ah ai:LI):Option (LI):=
 bnd (bA ah) fun x6=>
 chk ((x6.length+c.params.length) * 8≤140737488355328)<|
 itr (qJ c x6) LF (0,ai)
def S9 (c:PC)(ah out:LI)(x4:Bool):Option (LI):=
 if x4=true then
  chk ((out.length+([c.number]:LI).length) * 8≤140737488355328)<|
  Z7 c ah (out++([c.number]:LI))
 else
  Z7 c ah out
def xD (c:PC)(ah out:LI):Option (LI):=
 bnd (eV c) fun x4=>
 if x4=true then
  bnd (I8 ah c.number) fun x5=>
  if x5=true then
   S9 c ah out false
  else
   bnd (I8 out c.number) fun x6=>
   S9 c ah out (!x6)
 else
  S9 c ah out false
def J5 (c:PC):Option (LI):=
 bnd (xD c [] ([]:LI)) fun x2=>
 some x2
def I7 (s6:PC→Option Int)(c:PC)(go5:(Int×Int)→Option Int)(x3 x4:Int):Option Int:=
 if x4<(c.kids.length:Int)then
  bnd (nth c.kids x4) fun x6=>
  bnd (s6 x6) fun x7=>
  chk (I64 (x4+1))<|
  go5 ((max x3 x7),(x4+1))
 else
  chk (I64 (x3+1))<|
  some (x3+1)
def fJ (s6:PC→Option Int)(c:PC)(go:(Int×Int)→Option Int)(v:Int×Int):Option Int:=
 match v with
 |(x3,x4)=>I7 s6 c go x3 x4
def R7 (s6:PC→Option Int)(c:PC):Option Int:=
 itr (fJ s6 c) LF (0,0)
def s6:Nat→PC→Option Int
 |0,_=>none
 |n+1,c=>R7 (s6 n) c
def dG (x_1 a b:Int):Option Bool:=
 if x_1≥a then
  some (decide (x_1≤b))
 else
  some false
def gV (A3:PD→PD→Option Bool)(a b:PD)(go5:Int→Option Bool)(x4:Int):Option Bool:=
 if x4<(a.items.length:Int)then
  bnd (nth a.items x4) fun x6=>
  bnd (nth b.items x4) fun x7=>
  bnd (A3 x6 x7) fun x8=>
  if x8=true then
   chk (I64 (x4+1))<|
   go5 (x4+1)
  else
   some false
 else
  some true
def jY (A3:PD→PD→Option Bool)(a b:PD)(go:Int→Option Bool)(v:Int):Option Bool:=
 match v with
 |x4=>gV A3 a b go x4
def cW (A3:PD→PD→Option Bool)(a b:PD):Option Bool:=
 if a.kind=b.kind then
  if a.number=b.number then
   if a.text=b.text then
    if(a.items.length:Int)=(b.items.length:Int)then
     itr (jY A3 a b) LF 0
    else
     some false
   else
    some false
  else
   some false
 else
  some false
def A3:Nat→PD→PD→Option Bool
 |0,_,_=>none
 |n+1,a,b=>cW (A3 n) a b
def dQ (I9:PD→Int→Option (Bool×Int))(d:PD)(i4 au:Int)(go6:(Int×Int)→Option (Bool×Int))(x7:Bool):Option (Bool×Int):=
 if x7=true then
  bnd (nth d.items i4) fun x8=>
  bnd (I9 x8 au) fun x9=>
  chk (I64 (i4+1))<|
  go6 ((i4+1),x9.2)
 else
  some ((decide (au≥0)),au)
def bK (I9:PD→Int→Option (Bool×Int))(d:PD)(go6:(Int×Int)→Option (Bool×Int))(i4 au:Int):Option (Bool×Int):=
 if i4<(d.items.length:Int)then
  dQ I9 d i4 au go6 (decide (au≥0))
 else
  dQ I9 d i4 au go6 false
def yN (I9:PD→Int→Option (Bool×Int))(d:PD)(go:(Int×Int)→Option (Bool×Int))(v:Int×Int):Option (Bool×Int):=
 match v with
 |(i4,au)=>bK I9 d go i4 au
def qC (I9:PD→Int→Option (Bool×Int))(d:PD)(ap:Int):Option (Bool×Int):=
 chk (I64 (ap-1))<|
 itr (yN I9 d) LF (0,(ap-1))
def I9:Nat→PD→Int→Option (Bool×Int)
 |0,_,_=>none
 |n+1,d,ap=>qC (I9 n) d ap
def U7 (D8:PD→Option Int)(d:PD)(go5:(Int×Int)→Option Int)(x3 x4:Int):Option Int:=
 if x4<(d.items.length:Int)then
  bnd (nth d.items x4) fun x6=>
  bnd (D8 x6) fun x7=>
  chk (I64 (x4+1))<|
  go5 ((max x3 x7),(x4+1))
 else
  chk (I64 (x3+1))<|
  some (x3+1)
def pZ (D8:PD→Option Int)(d:PD)(go:(Int×Int)→Option Int)(v:Int×Int):Option Int:=
 match v with
 |(x3,x4)=>U7 D8 d go x3 x4
def gU (D8:PD→Option Int)(d:PD):Option Int:=
 itr (pZ D8 d) LF (0,0)
def D8:Nat→PD→Option Int
 |0,_=>none
 |n+1,d=>gU (D8 n) d
def eT (b:Int):Option Bool:=
 if b≥48 then
  some (decide (b≤57))
 else
  some false
def bX (b:Int)(go4:Int→Option Bool)(i3:Int):Option Bool:=
 if i3<(([33,63,42,60,62,61,47,43,45,46,95]:LB).length:Int)then
  bnd (nth ([33,63,42,60,62,61,47,43,45,46,95]:LB) i3) fun x5=>
  if(x5.toNat:Int)=b then
   some true
  else
   chk (I64 (i3+1))<|
   go4 (i3+1)
 else
  some false
def tY (b:Int)(go:Int→Option Bool)(v:Int):Option Bool:=
 match v with
 |i3=>bX b go i3
def Z2 (b:Int)(x2:Bool):Option Bool:=
 if x2=true then
  some true
 else
  itr (tY b) LF 0
def wZ (b:Int):Option Bool:=
 if b≥97 then
  if b≤122 then
   Z2 b true
  else
   bnd (eT b) fun x2=>
   Z2 b x2
 else
  bnd (eT b) fun x2=>
  Z2 b x2
def P7 (s:LB)(go4:Int→Option Bool)(i3:Int):Option Bool:=
 if i3<(s.length:Int)then
  bnd (nth s i3) fun x5=>
  bnd (wZ (x5.toNat:Int)) fun x6=>
  if x6=true then
   chk (I64 (i3+1))<|
   go4 (i3+1)
  else
   some false
 else
  some true
def nF (s:LB)(go:Int→Option Bool)(v:Int):Option Bool:=
 match v with
 |i3=>P7 s go i3
def J2 (s:LB)(x2:Bool):Option Bool:=
 if x2=true then
  some false
 else
  itr (nF s) LF 0
def fS (s:LB):Option Bool:=
 bnd (dG (s.length:Int) 1 16) fun x2=>
 if x2=true then
  bnd (nth s 0) fun x3=>
  bnd (eT (x3.toNat:Int)) fun x4=>
  if x4=true then
   J2 s true
  else
   bnd (nth s 0) fun x5=>
   if(x5.toNat:Int)=45 then
    if(s.length:Int)>1 then
     bnd (nth s 1) fun x6=>
     bnd (eT (x6.toNat:Int)) fun x7=>
     J2 s x7
    else
     J2 s false
   else
    J2 s false
 else
  J2 s true
def P8 (s:LB)(go3:Int→Option Bool)(i2:Int):Option Bool:=
 if i2<(s.length:Int)then
  bnd (nth s i2) fun x4=>
  if(x4.toNat:Int)<32 then
   some false
  else
   bnd (nth s i2) fun x5=>
   if(x5.toNat:Int)>126 then
    some false
   else
    bnd (nth s i2) fun x6=>
    if(x6.toNat:Int)=34 then
     some false
    else
     chk (I64 (i2+1))<|
     go3 (i2+1)
 else
  some (decide ((s.length:Int)≤20))
def xB (s:LB)(go:Int→Option Bool)(v:Int):Option Bool:=
 match v with
 |i2=>P8 s go i2
def lG (s:LB):Option Bool:=
 itr (xB s) LF 0
def xA (kind number:Int)(text:LB)(items:Int):Option Bool:=
 if kind=0 then
  if number=0 then
   some (decide (text=([]:LB)))
  else
   some false
 else
  if kind=1 then
   if number=0 then
    bnd (fS text) fun x5=>
    if x5=true then
     some (decide (items=0))
    else
     some false
   else
    some false
  else
   if kind=2 then
    bnd (dG number (-999999999) 999999999) fun x5=>
    if x5=true then
     if text=([]:LB)then
      some (decide (items=0))
     else
      some false
    else
     some false
   else
    if kind=3 then
     bnd (dG number 0 1) fun x5=>
     if x5=true then
      if text=([]:LB)then
       some (decide (items=0))
      else
       some false
     else
      some false
    else
     if kind=4 then
      if number=0 then
       bnd (lG text) fun x5=>
       if x5=true then
        some (decide (items=0))
       else
        some false
      else
       some false
     else
      some false
def U8 (D9:PD→Option Bool)(d:PD)(go4:Int→Option Bool)(x3:Int):Option Bool:=
 if x3<(d.items.length:Int)then
  bnd (nth d.items x3) fun x5=>
  bnd (D9 x5) fun x6=>
  if x6=true then
   chk (I64 (x3+1))<|
   go4 (x3+1)
  else
   some false
 else
  bnd (xA d.kind d.number d.text (d.items.length:Int)) fun x5=>
  some x5
def qD (D9:PD→Option Bool)(d:PD)(go:Int→Option Bool)(v:Int):Option Bool:=
 match v with
 |x3=>U8 D9 d go x3
def gX (D9:PD→Option Bool)(d:PD):Option Bool:=
 itr (qD D9 d) LF 0
def D9:Nat→PD→Option Bool
 |0,_=>none
 |n+1,d=>gX (D9 n) d
def qA (d:PD):Option Bool:=
 bnd (I9 RF d 600) fun x2=>
 if x2.1=true then
  bnd (D8 RF d) fun x3=>
  if x3≤20 then
   bnd (D9 RF d) fun x4=>
   some x4
  else
   some false
 else
  some false
def o7:Option (List (LB)):=
 some ([([43]:LB),([45]:LB),([42]:LB),([61]:LB),([60]:LB),([99,111,110,115]:LB),([99,97,114]:LB),([99,100,114]:LB),([110,117,108,108,63]:LB),([112,97,105,114,63]:LB),([110,117,109,98,101,114,63]:LB),([101,113,63]:LB),([110,111,116]:LB),([100,105,115,112,108,97,121]:LB)]:List (LB))
def I1 (c:PC)(x2:Bool):Option Bool:=
 if x2=true then
  some false
 else
  if c.kind=1 then
   if(c.kids.length:Int)=0 then
    if(c.params.length:Int)=0 then
     bnd (qA c.datum) fun x3=>
     some x3
    else
     some false
   else
    some false
  else
   if c.kind=2 then
    if(c.kids.length:Int)=0 then
     some (decide ((c.params.length:Int)=0))
    else
     some false
   else
    if c.kind=3 then
     if(c.kids.length:Int)=0 then
      if(c.params.length:Int)=0 then
       bnd (o7) fun x3=>
       chk (I64 ((x3.length:Int)-1))<|
       bnd (dG c.number 0 ((x3.length:Int)-1)) fun x4=>
       some x4
      else
       some false
     else
      some false
    else
     if c.kind=4 then
      if(c.kids.length:Int)=1 then
       some (decide ((c.params.length:Int)=0))
      else
       some false
     else
      if c.kind=5 then
       if(c.kids.length:Int)=1 then
        some (decide ((c.params.length:Int)≤8))
       else
        some false
      else
       if c.kind=6 then
        bnd (dG (c.kids.length:Int) 1 9) fun x3=>
        if x3=true then
         some (decide ((c.params.length:Int)=0))
        else
         some false
       else
        if c.kind=7 then
         if(c.kids.length:Int)=3 then
          some (decide ((c.params.length:Int)=0))
         else
          some false
        else
         if c.kind=8 then
          bnd (dG (c.kids.length:Int) 2 60) fun x3=>
          if x3=true then
           some (decide ((c.params.length:Int)=0))
          else
           some false
         else
          if c.kind=9 then
           bnd (dG (c.kids.length:Int) 1 60) fun x3=>
           if x3=true then
            bnd (dG (c.params.length:Int) 1 60) fun x4=>
            some x4
           else
            some false
          else
           if c.kind=10 then
            if(c.kids.length:Int)=1 then
             some (decide ((c.params.length:Int)=0))
            else
             some false
           else
            if c.kind=11 then
             if(c.kids.length:Int)=1 then
              some (decide ((c.params.length:Int)=1))
             else
              some false
            else
             some false
def qN (c:PC):Option Bool:=
 if c.kind=1 then
  if c.number=0 then
   I1 c false
  else
   bnd (eV c) fun x2=>
   if x2=true then
    I1 c false
   else
    I1 c (!decide (c.kind=3))
 else
  bnd (A3 RF c.datum (PD.mk 0 0 ([]:LB) [])) fun x2=>
  if x2=true then
   if c.number=0 then
    I1 c false
   else
    bnd (eV c) fun x3=>
    if x3=true then
     I1 c false
    else
     I1 c (!decide (c.kind=3))
  else
   I1 c true
def Z9 (x3:Int)(go4:Int→Option Bool)(x6:Bool):Option Bool:=
 if x6=true then
  some false
 else
  chk (I64 (x3+1))<|
  go4 (x3+1)
def V0 (E3:PC→Option Bool)(c:PC)(go4:Int→Option Bool)(x3:Int):Option Bool:=
 if x3<(c.kids.length:Int)then
  bnd (nth c.kids x3) fun x5=>
  bnd (E3 x5) fun x6=>
  if x6=true then
   if c.kind=8 then
    Z9 x3 go4 (decide (x5.kind=8))
   else
    Z9 x3 go4 false
  else
   Z9 x3 go4 true
 else
  bnd (qN c) fun x5=>
  some x5
def qM (E3:PC→Option Bool)(c:PC)(go:Int→Option Bool)(v:Int):Option Bool:=
 match v with
 |x3=>V0 E3 c go x3
def hO (E3:PC→Option Bool)(c:PC):Option Bool:=
 itr (qM E3 c) LF 0
def E3:Nat→PC→Option Bool
 |0,_=>none
 |n+1,c=>hO (E3 n) c
def P9 (ab:LI)(go3:Int→Option Bool)(x2:Int):Option Bool:=
 if x2<(ab.length:Int)then
  bnd (nth ab x2) fun x4=>
  bnd (dG x4 0 99999) fun x5=>
  if x5=true then
   chk (0≤x2∧x2≤ab.length)<|
   bnd (I8 (ab.take x2.toNat) x4) fun x6=>
   if x6=true then
    some false
   else
    chk (I64 (x2+1))<|
    go3 (x2+1)
  else
   some false
 else
  some true
def nM (ab:LI)(go:Int→Option Bool)(v:Int):Option Bool:=
 match v with
 |x2=>P9 ab go x2
def dT (ab:LI):Option Bool:=
 itr (nM ab) LF 0
def nI (C7:PC→LI→Option (LI))(c:PC)(go6:(Int×LI)→Option (LI))(x4:Int)(ai:LI):Option (LI):=
 if x4<(c.kids.length:Int)then
  bnd (nth c.kids x4) fun x7=>
  bnd (C7 x7 ai) fun x8=>
  chk (I64 (x4+1))<|
  go6 ((x4+1),x8)
 else
  some ai
def qE (C7:PC→LI→Option (LI))(c:PC)(go:(Int×LI)→Option (LI))(v:Int×LI):Option (LI):=
 match v with
 |(x4,ai)=>nI C7 c go x4 ai
def gY (C7:PC→LI→Option (LI))(c:PC)(out:LI):Option (LI):=
 chk ((out.length+c.params.length) * 8≤140737488355328)<|
 itr (qE C7 c) LF (0,(out++c.params))
def C7:Nat→PC→LI→Option (LI)
 |0,_,_=>none
 |n+1,c,out=>gY (C7 n) c out
def Y8 (globals x9:LI)(go11:Int→Option Bool)(x10:Int):Option Bool:=
 if x10<(x9.length:Int)then
  bnd (nth x9 x10) fun x12=>
  bnd (I8 globals x12) fun x13=>
  if x13=true then
   chk (I64 (x10+1))<|
   go11 (x10+1)
  else
   some false
 else
  some true
def tV (globals x9:LI)(go:Int→Option Bool)(v:Int):Option Bool:=
 match v with
 |x10=>Y8 globals x9 go x10
def wS (c:PC)(globals:LI):Option Bool:=
 bnd (lK c) fun x3=>
 if x3=true then
  bnd (s6 RF c) fun x4=>
  if x4>150 then
   some false
  else
   bnd (E3 RF c) fun x5=>
   if x5=true then
    bnd (bA globals) fun x6=>
    bnd (C7 RF c []) fun x7=>
    chk ((x6.length+x7.length) * 8≤140737488355328)<|
    bnd (dT (x6++x7)) fun x8=>
    if x8=true then
     bnd (J5 c) fun x9=>
     itr (tV globals x9) LF 0
    else
     some false
   else
    some false
 else
  some false
def xE (s:LB):Option Bool:=
 if(s.length:Int)≤8 then
  bnd (fS s) fun x2=>
  some x2
 else
  some false
def lE (u:PUnit')(globals:LI):Option Bool:=
 bnd (bA globals) fun x3=>
 chk ((x3.length+u.globals.length) * 8≤140737488355328)<|
 bnd (xE u.name) fun x4=>
 if x4=true then
  bnd (dT (x3++u.globals)) fun x5=>
  if x5=true then
   bnd (wS u.body (x3++u.globals)) fun x6=>
   some x6
  else
   some false
 else
  some false
def bL (ab:List (LB))(s:LB)(go4:Int→Option Bool)(x3:Int):Option Bool:=
 if x3<(ab.length:Int)then
  bnd (nth ab x3) fun x5=>
  if x5=s then
   some true
  else
   chk (I64 (x3+1))<|
   go4 (x3+1)
 else
  some false
def yO (ab:List (LB))(s:LB)(go:Int→Option Bool)(v:Int):Option Bool:=
 match v with
 |x3=>bL ab s go x3
def aj4 (ab:List (LB))(s:LB):Option Bool:=
 itr (yO ab s) LF 0
def K6 (u7:PC→Option Int)(c:PC)(go5:(Int×Int)→Option Int)(x3 x4:Int):Option Int:=
 if x4<(c.kids.length:Int)then
  bnd (nth c.kids x4) fun x6=>
  bnd (u7 x6) fun x7=>
  chk (I64 (x3+x7))<|
  chk (I64 (x4+1))<|
  go5 ((x3+x7),(x4+1))
 else
  some x3
def gW (u7:PC→Option Int)(c:PC)(go:(Int×Int)→Option Int)(v:Int×Int):Option Int:=
 match v with
 |(x3,x4)=>K6 u7 c go x3 x4
def W5 (u7:PC→Option Int)(c:PC):Option Int:=
 itr (gW u7 c) LF (1,0)
def u7:Nat→PC→Option Int
 |0,_=>none
 |n+1,c=>W5 (u7 n) c
def V1 (ab:List PUnit')(go4:(Int×LI)→Option Bool)(x2:Int)(bp:LI):Option Bool:=
 if x2<(ab.length:Int)then
  bnd (nth ab x2) fun x5=>
  chk ((bp.length+x5.globals.length) * 8≤140737488355328)<|
  bnd (C7 RF x5.body []) fun x6=>
  chk (((bp++x5.globals).length+x6.length) * 8≤140737488355328)<|
  chk (I64 (x2+1))<|
  go4 ((x2+1),((bp++x5.globals)++x6))
 else
  bnd (dT bp) fun x5=>
  some x5
def qP (ab:List PUnit')(go:(Int×LI)→Option Bool)(v:Int×LI):Option Bool:=
 match v with
 |(x2,bp)=>V1 ab go x2 bp
def qO (ab:List PUnit'):Option Bool:=
 itr (qP ab) LF (0,([]:LI))
def cA (x4:Int)(go7:(Int×Int×Int×LI×List (LB))→Option Bool)(cy cz:Int)(x10:PC)(x11 x12:Bool)(x13:PC)(x14:Int)(x15:Bool)(x16:PUnit')(x17 x18:Bool)(ct:LI)(bz:List (LB))(u21:PUnit'):Option Bool:=
 chk (I64 (x4+1))<|
 go7 (cy,cz,(x4+1),ct,bz)
def J3 (bv am x4:Int)(cd:LI)(bd:List (LB))(go7:(Int×Int×Int×LI×List (LB))→Option Bool)(x8:PUnit')(x10:Bool)(x11:Int)(x12:Bool)(x13:LI)(go15:Int→Option Bool)(x14:Int):Option Bool:=
 if x14<(x13.length:Int)then
  bnd (nth x13 x14) fun x16=>
  bnd (I8 cd x16) fun x17=>
  if x17=true then
   some false
  else
   chk (I64 (x14+1))<|
   go15 (x14+1)
 else
  chk ((cd.length+x8.globals.length) * 8≤140737488355328)<|
  chk ((bd.length+([x8.name]:List (LB)).length) * 16≤140737488355328)<|
  bnd (u7 RF x8.body) fun x16=>
  chk (I64 (bv+x16))<|
  if x8.body.kind=8 then
   chk (I64 (am+(x8.body.kids.length:Int)))<|
   chk (I64 ((am+(x8.body.kids.length:Int))-1))<|
   cA x4 go7 (bv+x16) ((am+(x8.body.kids.length:Int))-1) x8.body x10 (!x10) x8.body x11 (decide (x11≥150)) x8 x12 (!x12) (cd++x8.globals) (bd++([x8.name]:List (LB))) x8
  else
   cA x4 go7 (bv+x16) am x8.body x10 (!x10) x8.body x11 (decide (x11≥150)) x8 x12 (!x12) (cd++x8.globals) (bd++([x8.name]:List (LB))) x8
def jD (bv am x4:Int)(cd:LI)(bd:List (LB))(go7:(Int×Int×Int×LI×List (LB))→Option Bool)(x8:PUnit')(x10:Bool)(x11:Int)(x12:Bool)(x13:LI)(go:Int→Option Bool)(v:Int):Option Bool:=
 match v with
 |x14=>J3 bv am x4 cd bd go7 x8 x10 x11 x12 x13 go x14
def cY (ab:List PUnit')(go7:(Int×Int×Int×LI×List (LB))→Option Bool)(bv am x4:Int)(cd:LI)(bd:List (LB)):Option Bool:=
 if x4<(ab.length:Int)then
  bnd (nth ab x4) fun x8=>
  bnd (aj4 bd x8.name) fun x9=>
  if x9=true then
   some false
  else
   bnd (lK x8.body) fun x10=>
   if x10=true then
    bnd (s6 RF x8.body) fun x11=>
    if x11≥150 then
     some false
    else
     bnd (lE x8 cd) fun x12=>
     if x12=true then
      bnd (C7 RF x8.body []) fun x13=>
      itr (jD bv am x4 cd bd go7 x8 x10 x11 x12 x13) LF 0
     else
      some false
   else
    some false
 else
  if(ab.length:Int)≤12 then
   if(cd.length:Int)≤60 then
    chk (I64 (bv+1))<|
    if(bv+1)≤3000 then
     chk (I64 (am+(ab.length:Int)))<|
     if(am+(ab.length:Int))≤60 then
      bnd (qO ab) fun x8=>
      some x8
     else
      some false
    else
     some false
   else
    some false
  else
   some false
def qR (ab:List PUnit')(go:(Int×Int×Int×LI×List (LB))→Option Bool)(v:Int×Int×Int×LI×List (LB)):Option Bool:=
 match v with
 |(bv,am,x4,cd,bd)=>cY ab go bv am x4 cd bd
def qQ (ab:List PUnit'):Option Bool:=
 itr (qR ab) LF (0,0,0,([]:LI),([]:List (LB)))
def Z0 (F6:PD→Option PD)(d:PD)(go5:(Int×List PD)→Option PD)(x3:Int)(x4:List PD):Option PD:=
 if x3<(d.items.length:Int)then
  bnd (nth d.items x3) fun x6=>
  bnd (F6 x6) fun x7=>
  chk ((x4.length+([x7]:List PD).length) * 56≤140737488355328)<|
  chk (I64 (x3+1))<|
  go5 ((x3+1),(x4++([x7]:List PD)))
 else
  some (PD.mk d.kind d.number d.text x4)
def tW (F6:PD→Option PD)(d:PD)(go:(Int×List PD)→Option PD)(v:Int×List PD):Option PD:=
 match v with
 |(x3,x4)=>Z0 F6 d go x3 x4
def lF (F6:PD→Option PD)(d:PD):Option PD:=
 itr (tW F6 d) LF (0,[])
def F6:Nat→PD→Option PD
 |0,_=>none
 |n+1,d=>lF (F6 n) d
def dS (x2:Int)(go4:(Int×List PC)→Option PC)(ai:List PC):Option PC:=
 chk (I64 (x2+1))<|
 go4 ((x2+1),ai)
def Z6 (ab:List PC)(go4:(Int×List PC)→Option PC)(x2:Int)(aj:List PC):Option PC:=
 if x2<(ab.length:Int)then
  bnd (nth ab x2) fun x5=>
  if x5.kind=8 then
   chk ((aj.length+x5.kids.length) * 120≤140737488355328)<|
   dS x2 go4 (aj++x5.kids)
  else
   chk ((aj.length+([x5]:List PC).length) * 120≤140737488355328)<|
   dS x2 go4 (aj++([x5]:List PC))
 else
  if(aj.length:Int)=1 then
   bnd (nth aj 0) fun x5=>
   some x5
  else
   some (PC.mk 8 0 [] (PD.mk 0 0 ([]:LB) []) aj)
def uD (ab:List PC)(go:(Int×List PC)→Option PC)(v:Int×List PC):Option PC:=
 match v with
 |(x2,aj)=>Z6 ab go x2 aj
def nK (ab:List PC):Option PC:=
 itr (uD ab) LF (0,([]:List PC))
def Z4 (B5:PC→Option PC)(c:PC)(x3:LI)(x4:PD)(go7:(Int×List PC)→Option PC)(x5:Int)(x6:List PC):Option PC:=
 if x5<(c.kids.length:Int)then
  bnd (nth c.kids x5) fun x8=>
  bnd (B5 x8) fun x9=>
  chk ((x6.length+([x9]:List PC).length) * 120≤140737488355328)<|
  chk (I64 (x5+1))<|
  go7 ((x5+1),(x6++([x9]:List PC)))
 else
  some (PC.mk c.kind c.number x3 x4 x6)
def uC (B5:PC→Option PC)(c:PC)(x3:LI)(x4:PD)(go:(Int×List PC)→Option PC)(v:Int×List PC):Option PC:=
 match v with
 |(x5,x6)=>Z4 B5 c x3 x4 go x5 x6
def lI (B5:PC→Option PC)(c:PC):Option PC:=
 bnd (bA c.params) fun x3=>
 bnd (F6 RF c.datum) fun x4=>
 itr (uC B5 c x3 x4) LF (0,[])
def B5:Nat→PC→Option PC
 |0,_=>none
 |n+1,c=>lI (B5 n) c
def jG (c:PC):Option Bool:=
 if c.kind=1 then
  some (decide ((c.datum.items.length:Int)=0))
 else
  some false
def nQ (C8:PD→List PPair→Option (PVal×List PPair))(d:PD)(go7:(Int×List PPair×PVal)→Option (PVal×List PPair))(i4:Int)(bc:List PPair)(ci:PVal):Option (PVal×List PPair):=
 if i4≥0 then
  bnd (nth d.items i4) fun x8=>
  bnd (C8 x8 bc) fun x9=>
  chk ((x9.2.length+([(PPair.mk x9.1 ci)]:List PPair).length) * 64≤140737488355328)<|
  chk (I64 (((x9.2++([(PPair.mk x9.1 ci)]:List PPair)).length:Int)-1))<|
  chk (I64 (i4-1))<|
  go7 ((i4-1),(x9.2++([(PPair.mk x9.1 ci)]:List PPair)),(PVal.mk 7 (((x9.2++([(PPair.mk x9.1 ci)]:List PPair)).length:Int)-1) ([]:LB)))
 else
  some (ci,bc)
def jF (C8:PD→List PPair→Option (PVal×List PPair))(d:PD)(go:(Int×List PPair×PVal)→Option (PVal×List PPair))(v:Int×List PPair×PVal):Option (PVal×List PPair):=
 match v with
 |(i4,bc,ci)=>nQ C8 d go i4 bc ci
def hX (C8:PD→List PPair→Option (PVal×List PPair))(d:PD)(an:List PPair):Option (PVal×List PPair):=
 if d.kind=1 then
  some ((PVal.mk 4 0 d.text),an)
 else
  if d.kind=2 then
   some ((PVal.mk 3 d.number ([]:LB)),an)
  else
   if d.kind=3 then
    some ((PVal.mk 2 d.number ([]:LB)),an)
   else
    if d.kind=4 then
     some ((PVal.mk 5 0 d.text),an)
    else
     chk (I64 ((d.items.length:Int)-1))<|
     itr (jF C8 d) LF (((d.items.length:Int)-1),an,(PVal.mk 1 0 ([]:LB)))
def C8:Nat→PD→List PPair→Option (PVal×List PPair)
 |0,_,_=>none
 |n+1,d,an=>hX (C8 n) d an
def pY (aq:Int):Option Int:=
 bnd (o7) fun x2=>
 chk (I64 ((x2.length:Int)-1))<|
 bnd (dG aq 0 ((x2.length:Int)-1)) fun x3=>
 if x3=true then
  bnd (nth ([2,2,2,2,2,2,1,1,1,1,1,2,1,1]:LI) aq) fun x4=>
  some x4
 else
  some (-1)
def lL (x_1:PVal):Option Bool:=
 if x_1.kind=2 then
  some (decide (x_1.number=0))
 else
  some false
def eE (b:Bool):Option PVal:=
 if b=true then
  some (PVal.mk 2 1 ([]:LB))
 else
  some (PVal.mk 2 0 ([]:LB))
def dU (p a b:Int):Option (PVal×LB):=
 if p=0 then
  chk (I64 (a+b))<|
  bnd (dG (a+b) (-999999999) 999999999) fun x4=>
  if x4=true then
   some ((PVal.mk 3 (a+b) ([]:LB)),([]:LB))
  else
   some ((PVal.mk 0 0 ([]:LB)),([110,117,109,98,101,114,32,116,111,111,32,108,97,114,103,101]:LB))
 else
  if p=1 then
   chk (I64 (a-b))<|
   bnd (dG (a-b) (-999999999) 999999999) fun x4=>
   if x4=true then
    some ((PVal.mk 3 (a-b) ([]:LB)),([]:LB))
   else
    some ((PVal.mk 0 0 ([]:LB)),([110,117,109,98,101,114,32,116,111,111,32,108,97,114,103,101]:LB))
  else
   if p=2 then
    chk (I64 (a * b))<|
    bnd (dG (a * b) (-999999999) 999999999) fun x4=>
    if x4=true then
     some ((PVal.mk 3 (a * b) ([]:LB)),([]:LB))
    else
     some ((PVal.mk 0 0 ([]:LB)),([110,117,109,98,101,114,32,116,111,111,32,108,97,114,103,101]:LB))
   else
    if p=3 then
     bnd (eE (decide (a=b))) fun x4=>
     some (x4,([]:LB))
    else
     bnd (eE (decide (a<b))) fun x4=>
     some (x4,([]:LB))
def J6 (p:Int)(bn:List PVal)(an:List PPair)(x5:LB)(x6:PVal)(x8:Bool):Option (PVal×LB):=
 if x8=true then
  if x6.kind=7 then
   if p=6 then
    bnd (nth an x6.number) fun x9=>
    some (x9.h,([]:LB))
   else
    bnd (nth an x6.number) fun x9=>
    some (x9.t,([]:LB))
  else
   some ((PVal.mk 0 0 ([]:LB)),(x5++([58,32,98,97,100,32,97,114,103,117,109,101,110,116]:LB)))
 else
  if p=8 then
   bnd (eE (decide (x6.kind=1))) fun x9=>
   some (x9,([]:LB))
  else
   if p=9 then
    bnd (eE (decide (x6.kind=7))) fun x9=>
    some (x9,([]:LB))
   else
    if p=10 then
     bnd (eE (decide (x6.kind=3))) fun x9=>
     some (x9,([]:LB))
    else
     if p=11 then
      bnd (nth bn 1) fun x9=>
      bnd (eE (decide (x6=x9))) fun x10=>
      some (x10,([]:LB))
     else
      bnd (lL x6) fun x9=>
      bnd (eE x9) fun x10=>
      some (x10,([]:LB))
def u9 (p:Int)(bn:List PVal)(an:List PPair)(x5:LB)(x6:PVal)(x7:Bool):Option (PVal×LB):=
 if x7=true then
  if x6.kind=3 then
   bnd (nth bn 1) fun x8=>
   if x8.kind=3 then
    bnd (nth bn 1) fun x9=>
    bnd (dU p x6.number x9.number) fun x10=>
    some (x10.1,x10.2)
   else
    some ((PVal.mk 0 0 ([]:LB)),(x5++([58,32,98,97,100,32,97,114,103,117,109,101,110,116]:LB)))
  else
   some ((PVal.mk 0 0 ([]:LB)),(x5++([58,32,98,97,100,32,97,114,103,117,109,101,110,116]:LB)))
 else
  if p=6 then
   J6 p bn an x5 x6 true
  else
   J6 p bn an x5 x6 (decide (p=7))
def w6 (p:Int)(bn:List PVal)(an:List PPair):Option (PVal×LB):=
 bnd (o7) fun x4=>
 bnd (nth x4 p) fun x5=>
 chk (x5.length+([58,32,98,97,100,32,97,114,103,117,109,101,110,116]:LB).length≤9223372036854775807)<|
 bnd (nth bn 0) fun x6=>
 if p=0 then
  u9 p bn an x5 x6 true
 else
  if p=1 then
   u9 p bn an x5 x6 true
  else
   if p=2 then
    u9 p bn an x5 x6 true
   else
    if p=3 then
     u9 p bn an x5 x6 true
    else
     u9 p bn an x5 x6 (decide (p=4))
def lN (x_1:PVal):Option (PD×Bool):=
 if x_1.kind=1 then
  some ((PD.mk 0 0 ([]:LB) []),true)
 else
  if x_1.kind=2 then
   some ((PD.mk 3 x_1.number ([]:LB) []),true)
  else
   if x_1.kind=3 then
    some ((PD.mk 2 x_1.number ([]:LB) []),true)
   else
    some ((PD.mk 0 0 ([]:LB) []),false)
def eW (c x3:PC)(go6:(Int×List PVal)→Option (PC×Bool))(x4:Int)(cn:List PVal):Option (PC×Bool):=
 if x4<((c.kids.drop (1:Int).toNat).length:Int)then
  bnd (nth (c.kids.drop (1:Int).toNat) x4) fun x7=>
  bnd (jG x7) fun x8=>
  if x8=true then
   bnd (C8 RF x7.datum []) fun x9=>
   chk ((cn.length+([x9.1]:List PVal).length) * 32≤140737488355328)<|
   chk (I64 (x4+1))<|
   go6 ((x4+1),(cn++([x9.1]:List PVal)))
  else
   some ((PC.mk 0 0 [] (PD.mk 0 0 ([]:LB) []) []),false)
 else
  if x3.number=5 then
   some ((PC.mk 0 0 [] (PD.mk 0 0 ([]:LB) []) []),false)
  else
   if x3.number=13 then
    some ((PC.mk 0 0 [] (PD.mk 0 0 ([]:LB) []) []),false)
   else
    bnd (pY x3.number) fun x7=>
    if(cn.length:Int)=x7 then
     bnd (w6 x3.number cn []) fun x8=>
     bnd (lN x8.1) fun x9=>
     if x8.2=([]:LB)then
      if x9.2=true then
       some ((PC.mk 1 0 [] x9.1 []),true)
      else
       some ((PC.mk 0 0 [] (PD.mk 0 0 ([]:LB) []) []),false)
     else
      some ((PC.mk 0 0 [] (PD.mk 0 0 ([]:LB) []) []),false)
    else
     some ((PC.mk 0 0 [] (PD.mk 0 0 ([]:LB) []) []),false)
def uM (c x3:PC)(go:(Int×List PVal)→Option (PC×Bool))(v:Int×List PVal):Option (PC×Bool):=
 match v with
 |(x4,cn)=>eW c x3 go x4 cn
def xG (c:PC):Option (PC×Bool):=
 if c.kind=6 then
  bnd (nth c.kids 0) fun x2=>
  if x2.kind=3 then
   bnd (nth c.kids 0) fun x3=>
   chk (0≤(1:Int)∧(1:Int)≤c.kids.length)<|
   itr (uM c x3) LF (0,([]:List PVal))
  else
   some ((PC.mk 0 0 [] (PD.mk 0 0 ([]:LB) []) []),false)
 else
  some ((PC.mk 0 0 [] (PD.mk 0 0 ([]:LB) []) []),false)
def fT (c:PC)(aa:LI):Option Bool:=
 bnd (jG c) fun x3=>
 if x3=true then
  some true
 else
  if c.kind=3 then
   some true
  else
   if c.kind=2 then
    bnd (I8 aa c.number) fun x4=>
    some (!x4)
   else
    some false
def G7 (n9:PC→Int→PC→Option PC)(c:PC)(x_1:Int)(x_2 x6:PC)(go9:(Int×List PC)→Option PC)(x7:Int)(x8:List PC):Option PC:=
 if x7<(x6.kids.length:Int)then
  bnd (nth c.kids x7) fun x10=>
  bnd (n9 x10 x_1 x_2) fun x11=>
  bnd (nth x8 x7) fun x12=>
  chk (I64 (x7+1))<|
  go9 ((x7+1),(x8.set x7.toNat x11))
 else
  some (PC.mk x6.kind x6.number x6.params x6.datum x8)
def aK (n9:PC→Int→PC→Option PC)(c:PC)(x_1:Int)(x_2 x6:PC)(go:(Int×List PC)→Option PC)(v:Int×List PC):Option PC:=
 match v with
 |(x7,x8)=>G7 n9 c x_1 x_2 x6 go x7 x8
def M3 (n9:PC→Int→PC→Option PC)(c:PC)(x_1:Int)(x_2:PC)(x5:Bool):Option PC:=
 if x5=true then
  bnd (B5 RF x_2) fun x6=>
  some x6
 else
  bnd (B5 RF c) fun x6=>
  itr (aK n9 c x_1 x_2 x6) LF (0,x6.kids)
def W1 (n9:PC→Int→PC→Option PC)(c:PC)(x_1:Int)(x_2:PC):Option PC:=
 if c.kind=2 then
  M3 n9 c x_1 x_2 (decide (c.number=x_1))
 else
  M3 n9 c x_1 x_2 false
def n9:Nat→PC→Int→PC→Option PC
 |0,_,_,_=>none
 |n+1,c,x_1,x_2=>W1 (n9 n) c x_1 x_2
def aA (c x5:PC)(go12:(Int×PC)→Option (PC×Bool))(x10:Int)(co:PC):Option (PC×Bool):=
 if x10<(x5.params.length:Int)then
  bnd (nth x5.params x10) fun x13=>
  chk (I64 (x10+1))<|
  bnd (nth c.kids (x10+1)) fun x14=>
  bnd (n9 RF co x13 x14) fun x15=>
  chk (I64 (x10+1))<|
  go12 ((x10+1),x15)
 else
  some (co,true)
def nS (c x5:PC)(go:(Int×PC)→Option (PC×Bool))(v:Int×PC):Option (PC×Bool):=
 match v with
 |(x10,co)=>aA c x5 go x10 co
def qS (c:PC)(aa:LI)(x5:PC)(go7:Int→Option (PC×Bool))(x6:Int):Option (PC×Bool):=
 if x6<(x5.params.length:Int)then
  bnd (nth x5.params x6) fun x8=>
  bnd (I8 aa x8) fun x9=>
  if x9=true then
   some ((PC.mk 0 0 [] (PD.mk 0 0 ([]:LB) []) []),false)
  else
   chk (I64 (x6+1))<|
   bnd (nth c.kids (x6+1)) fun x10=>
   bnd (fT x10 aa) fun x11=>
   if x11=true then
    chk (I64 (x6+1))<|
    go7 (x6+1)
   else
    some ((PC.mk 0 0 [] (PD.mk 0 0 ([]:LB) []) []),false)
 else
  bnd (nth x5.kids 0) fun x8=>
  bnd (B5 RF x8) fun x9=>
  itr (nS c x5) LF (0,x9)
def uK (c:PC)(aa:LI)(x5:PC)(go:Int→Option (PC×Bool))(v:Int):Option (PC×Bool):=
 match v with
 |x6=>qS c aa x5 go x6
def nR (c:PC)(aa:LI):Option (PC×Bool):=
 if c.kind=6 then
  bnd (nth c.kids 0) fun x3=>
  if x3.kind=5 then
   bnd (nth c.kids 0) fun x4=>
   chk (I64 ((c.kids.length:Int)-1))<|
   if(x4.params.length:Int)=((c.kids.length:Int)-1)then
    bnd (nth c.kids 0) fun x5=>
    itr (uK c aa x5) LF 0
   else
    some ((PC.mk 0 0 [] (PD.mk 0 0 ([]:LB) []) []),false)
  else
   some ((PC.mk 0 0 [] (PD.mk 0 0 ([]:LB) []) []),false)
 else
  some ((PC.mk 0 0 [] (PD.mk 0 0 ([]:LB) []) []),false)
def dV (x2:Int)(go4:(Int×List PC)→Option (PC×Bool))(da:List PC):Option (PC×Bool):=
 chk (I64 (x2+1))<|
 go4 ((x2+1),da)
def aB (x2:Int)(am:List PC)(go4:(Int×List PC)→Option (PC×Bool))(x5:PC)(x6:Bool):Option (PC×Bool):=
 if x6=true then
  bnd (B5 RF x5) fun x7=>
  chk ((am.length+([x7]:List PC).length) * 120≤140737488355328)<|
  dV x2 go4 (am++([x7]:List PC))
 else
  dV x2 go4 am
def aC (c:PC)(go4:(Int×List PC)→Option (PC×Bool))(x2:Int)(am:List PC):Option (PC×Bool):=
 if x2<(c.kids.length:Int)then
  bnd (nth c.kids x2) fun x5=>
  chk (I64 ((c.kids.length:Int)-1))<|
  if x2=((c.kids.length:Int)-1)then
   aB x2 am go4 x5 true
  else
   if x5.kind=1 then
    aB x2 am go4 x5 false
   else
    if x5.kind=3 then
     aB x2 am go4 x5 false
    else
     aB x2 am go4 x5 (!decide (x5.kind=5))
 else
  bnd (nK am) fun x5=>
  some (x5,(decide ((am.length:Int)<(c.kids.length:Int))))
def uL (c:PC)(go:(Int×List PC)→Option (PC×Bool))(v:Int×List PC):Option (PC×Bool):=
 match v with
 |(x2,am)=>aC c go x2 am
def jI (c:PC):Option (PC×Bool):=
 if c.kind=8 then
  itr (uL c) LF (0,([]:List PC))
 else
  some ((PC.mk 0 0 [] (PD.mk 0 0 ([]:LB) []) []),false)
def aD (c:PC)(x5:Bool):Option (PC×Bool):=
 if x5=true then
  bnd (nth c.kids 0) fun x6=>
  bnd (C8 RF x6.datum []) fun x7=>
  bnd (lL x7.1) fun x8=>
  if x8=true then
   bnd (nth c.kids 2) fun x9=>
   bnd (B5 RF x9) fun x10=>
   some (x10,true)
  else
   bnd (nth c.kids 1) fun x9=>
   bnd (B5 RF x9) fun x10=>
   some (x10,true)
 else
  bnd (jI c) fun x6=>
  some (x6.1,x6.2)
def xI (c:PC)(aa:LI):Option (PC×Bool):=
 bnd (xG c) fun x3=>
 if x3.2=true then
  some (x3.1,true)
 else
  bnd (nR c aa) fun x4=>
  if x4.2=true then
   some (x4.1,true)
  else
   if c.kind=7 then
    bnd (nth c.kids 0) fun x5=>
    bnd (jG x5) fun x6=>
    aD c x6
   else
    aD c false
def bR (c:PC)(aa:LI)(x_1 x8 ax bh:Int)(bg:LI)(bi cj:Int)(cm:LB)(cf:List PD)(cc:List PC)(x19:Bool):Option (PC×Int):=
 if x19=true then
  bnd (B5 RF c) fun x20=>
  some (x20,x_1)
 else
  bnd (xI (PC.mk ax bh bg (PD.mk bi cj cm cf) cc) aa) fun x20=>
  if x20.2=true then
   chk (I64 (x8+1))<|
   some (x20.1,(x8+1))
  else
   some ((PC.mk ax bh bg (PD.mk bi cj cm cf) cc),x8)
def dW (c:PC)(aa:LI)(x_1 x8 ax bh:Int)(bg:LI)(bi cj:Int)(cm:LB)(cf:List PD)(cc:List PC):Option (PC×Int):=
 if ax=8 then
  bR c aa x_1 x8 ax bh bg bi cj cm cf cc (decide ((cc.length:Int)>60))
 else
  bR c aa x_1 x8 ax bh bg bi cj cm cf cc false
def eY (G6:PC→LI→Int→Option (PC×Int))(c:PC)(aa:LI)(x_1:Int)(x5:LI)(x6:PD)(go10:(Int×Int×List PC)→Option (PC×Int))(x7 x8:Int)(x9:List PC):Option (PC×Int):=
 if x7<(c.kids.length:Int)then
  bnd (nth c.kids x7) fun x11=>
  bnd (G6 x11 aa x8) fun x12=>
  chk ((x9.length+([x12.1]:List PC).length) * 120≤140737488355328)<|
  chk (I64 (x7+1))<|
  go10 ((x7+1),x12.2,(x9++([x12.1]:List PC)))
 else
  if c.kind=8 then
   bnd (nK x9) fun x11=>
   dW c aa x_1 x8 x11.kind x11.number x11.params x11.datum.kind x11.datum.number x11.datum.text x11.datum.items x11.kids
  else
   dW c aa x_1 x8 c.kind c.number x5 x6.kind x6.number x6.text x6.items x9
def uN (G6:PC→LI→Int→Option (PC×Int))(c:PC)(aa:LI)(x_1:Int)(x5:LI)(x6:PD)(go:(Int×Int×List PC)→Option (PC×Int))(v:Int×Int×List PC):Option (PC×Int):=
 match v with
 |(x7,x8,x9)=>eY G6 c aa x_1 x5 x6 go x7 x8 x9
def lO (G6:PC→LI→Int→Option (PC×Int))(c:PC)(aa:LI)(x_1:Int):Option (PC×Int):=
 bnd (bA c.params) fun x5=>
 bnd (F6 RF c.datum) fun x6=>
 itr (uN G6 c aa x_1 x5 x6) LF (0,x_1,[])
def G6:Nat→PC→LI→Int→Option (PC×Int)
 |0,_,_,_=>none
 |n+1,c,aa,x_1=>lO (G6 n) c aa x_1
def bZ (i6:Int)(go8:(Int×LI)→Option (LI))(bu:LI):Option (LI):=
 chk (I64 (i6+1))<|
 go8 ((i6+1),bu)
def U9 (o6:PC→LI→Option (LI))(c:PC)(go12:(Int×LI)→Option (LI))(x10:Int)(ax:LI):Option (LI):=
 if x10<(c.kids.length:Int)then
  bnd (nth c.kids x10) fun x13=>
  bnd (o6 x13 ax) fun x14=>
  chk (I64 (x10+1))<|
  go12 ((x10+1),x14)
 else
  some ax
def jB (o6:PC→LI→Option (LI))(c:PC)(go:(Int×LI)→Option (LI))(v:Int×LI):Option (LI):=
 match v with
 |(x10,ax)=>U9 o6 c go x10 ax
def S8 (o6:PC→LI→Option (LI))(c:PC)(i6:Int)(bm:LI)(go8:(Int×LI)→Option (LI))(x9:Bool):Option (LI):=
 if x9=true then
  bnd (nth c.params i6) fun x10=>
  bnd (I8 bm x10) fun x11=>
  if x11=true then
   bZ i6 go8 bm
  else
   bnd (nth c.params i6) fun x12=>
   chk ((bm.length+([x12]:LI).length) * 8≤140737488355328)<|
   bZ i6 go8 (bm++([x12]:LI))
 else
  itr (jB o6 c) LF (0,bm)
def L6 (o6:PC→LI→Option (LI))(c:PC)(go8:(Int×LI)→Option (LI))(i6:Int)(bm:LI):Option (LI):=
 if i6<(c.params.length:Int)then
  S8 o6 c i6 bm go8 (decide (c.kind=9))
 else
  S8 o6 c i6 bm go8 false
def eU (o6:PC→LI→Option (LI))(c:PC)(go:(Int×LI)→Option (LI))(v:Int×LI):Option (LI):=
 match v with
 |(i6,bm)=>L6 o6 c go i6 bm
def Z3 (o6:PC→LI→Option (LI))(c:PC)(ai:LI):Option (LI):=
 itr (eU o6 c) LF (0,ai)
def bY (o6:PC→LI→Option (LI))(c:PC)(out:LI)(x4:Bool):Option (LI):=
 if x4=true then
  chk ((out.length+([c.number]:LI).length) * 8≤140737488355328)<|
  Z3 o6 c (out++([c.number]:LI))
 else
  Z3 o6 c out
def gZ (o6:PC→LI→Option (LI))(c:PC)(out:LI):Option (LI):=
 if c.kind=4 then
  bnd (I8 out c.number) fun x4=>
  bY o6 c out (!x4)
 else
  bY o6 c out false
def o6:Nat→PC→LI→Option (LI)
 |0,_,_=>none
 |n+1,c,out=>gZ (o6 n) c out
def V9 (c:PC):Option (LI):=
 bnd (o6 RF c ([]:LI)) fun x2=>
 some x2
def lM (c:PC):Option (LI):=
 bnd (V9 c) fun x2=>
 bnd (J5 c) fun x3=>
 chk ((x2.length+x3.length) * 8≤140737488355328)<|
 some (x2++x3)
def W0 (globals:LI)(go7:(Int×PC)→Option (PC×Int))(ce:Int)(c6:PC):Option (PC×Int):=
 bnd (lM c6) fun x8=>
 chk ((x8.length+globals.length) * 8≤140737488355328)<|
 bnd (G6 RF c6 (x8++globals) 0) fun x9=>
 chk (I64 (ce+x9.2))<|
 if x9.2=0 then
  some (x9.1,(ce+x9.2))
 else
  go7 ((ce+x9.2),x9.1)
def hY (globals:LI)(go:(Int×PC)→Option (PC×Int))(v:Int×PC):Option (PC×Int):=
 match v with
 |(ce,c6)=>W0 globals go ce c6
def eX (c:PC)(globals:LI):Option (PC×Int):=
 bnd (lM c) fun x3=>
 chk ((x3.length+globals.length) * 8≤140737488355328)<|
 bnd (G6 RF c (x3++globals) 0) fun x4=>
 chk (I64 (0+x4.2))<|
 if x4.2=0 then
  some (x4.1,(0+x4.2))
 else
  itr (hY globals) LF ((0+x4.2),x4.1)
def hU (ab:List PUnit')(go4:(Int×LI)→Option (LI))(x2:Int)(aj:LI):Option (LI):=
 if x2<(ab.length:Int)then
  bnd (nth ab x2) fun x5=>
  chk ((aj.length+x5.globals.length) * 8≤140737488355328)<|
  chk (I64 (x2+1))<|
  go4 ((x2+1),(aj++x5.globals))
 else
  some aj
def sP (ab:List PUnit')(go:(Int×LI)→Option (LI))(v:Int×LI):Option (LI):=
 match v with
 |(x2,aj)=>hU ab go x2 aj
def nP (ab:List PUnit'):Option (LI):=
 itr (sP ab) LF (0,([]:LI))
def N1 (ae:List PUnit')(go6:(Int×Int×List PUnit')→Option (List PUnit'×Int))(cp x4:Int)(ai:List PUnit'):Option (List PUnit'×Int):=
 if x4<(ae.length:Int)then
  bnd (nth ae x4) fun x7=>
  bnd (nP ae) fun x8=>
  bnd (eX x7.body x8) fun x9=>
  chk (I64 (cp+x9.2))<|
  bnd (bA x7.globals) fun x10=>
  chk ((ai.length+([(PUnit'.mk x7.name x10 x9.1)]:List PUnit').length) * 160≤140737488355328)<|
  chk (I64 (x4+1))<|
  go6 ((cp+x9.2),(x4+1),(ai++([(PUnit'.mk x7.name x10 x9.1)]:List PUnit')))
 else
  some (ai,cp)
def cX (ae:List PUnit')(go:(Int×Int×List PUnit')→Option (List PUnit'×Int))(v:Int×Int×List PUnit'):Option (List PUnit'×Int):=
 match v with
 |(cp,x4,ai)=>N1 ae go cp x4 ai
def Y9 (ae:List PUnit'):Option (List PUnit'×Int):=
 bnd (qQ ae) fun x2=>
 if x2=true then
  itr (cX ae) LF (0,0,([]:List PUnit'))
 else
  some ([],0)
end Go.Abs

namespace Go.Abs
set_option linter.unusedVariables false
def aT (go4:(Int×LB)→Option (LB))(k2:Int)(aj:LB):Option (LB):=
 if k2>0 then
  chk (0≤k2∧k2≤9223372036854775807∧(0:Int)<10)<|
  chk (I64 (48+(k2 % 10)))<|
  chk (0≤(48+(k2 % 10))∧(48+(k2 % 10))≤255)<|
  chk (([(UInt8.ofNat (48+(k2 % 10)).toNat)]:LB).length+aj.length≤9223372036854775807)<|
  chk (0≤k2∧k2≤9223372036854775807∧(0:Int)<10)<|
  go4 ((k2 / 10),(([(UInt8.ofNat (48+(k2 % 10)).toNat)]:LB)++aj))
 else
  chk (([109]:LB).length+aj.length≤9223372036854775807)<|
  some (([109]:LB)++aj)
def oJ (go:(Int×LB)→Option (LB))(v:Int×LB):Option (LB):=
 match v with
 |(k2,aj)=>aT go k2 aj
def K0 (k:Int):Option (LB):=
 if k≤0 then
  some ([109,48]:LB)
 else
  itr oJ LF (k,([]:LB))
def K8 (u4:List PD→Int→Option (Int×List PD))(go7:(Int×Int×List PD)→Option (Int×List PD))(k4 i5:Int)(a6:List PD):Option (Int×List PD):=
 if i5<(a6.length:Int)then
  bnd (nth a6 i5) fun x8=>
  chk (I64 (k4+1))<|
  bnd (nth (a6.set i5.toNat (PD.mk k4 x8.number x8.text x8.items)) i5) fun x9=>
  chk (I64 ((k4+1)+1))<|
  bnd (K0 ((k4+1)+1)) fun x10=>
  bnd (nth ((a6.set i5.toNat (PD.mk k4 x8.number x8.text x8.items)).set i5.toNat (PD.mk x9.kind (k4+1) x9.text x9.items)) i5) fun x11=>
  chk (I64 (((k4+1)+1)+1))<|
  bnd (nth (((a6.set i5.toNat (PD.mk k4 x8.number x8.text x8.items)).set i5.toNat (PD.mk x9.kind (k4+1) x9.text x9.items)).set i5.toNat (PD.mk x11.kind x11.number x10 x11.items)) i5) fun x12=>
  bnd (u4 x12.items (((k4+1)+1)+1)) fun x13=>
  chk (x13.2.length=x12.items.length)<|
  chk (I64 (i5+1))<|
  go7 (x13.1,(i5+1),((((a6.set i5.toNat (PD.mk k4 x8.number x8.text x8.items)).set i5.toNat (PD.mk x9.kind (k4+1) x9.text x9.items)).set i5.toNat (PD.mk x11.kind x11.number x10 x11.items)).set i5.toNat (PD.mk x12.kind x12.number x12.text x13.2)))
 else
  some (k4,a6)
def iI (u4:List PD→Int→Option (Int×List PD))(go:(Int×Int×List PD)→Option (Int×List PD))(v:Int×Int×List PD):Option (Int×List PD):=
 match v with
 |(k4,i5,a6)=>K8 u4 go k4 i5 a6
def aS (u4:List PD→Int→Option (Int×List PD))(a:List PD)(k:Int):Option (Int×List PD):=
 itr (iI u4) LF (k,0,a)
def u4:Nat→List PD→Int→Option (Int×List PD)
 |0,_,_=>none
 |n+1,a,k=>aS (u4 n) a k
def K7 (t9:List PD→Int→Option Int)(a:List PD)(go6:(Int×Int)→Option Int)(k4 i5:Int):Option Int:=
 if i5<(a.length:Int)then
  bnd (nth a i5) fun x7=>
  if x7.kind=k4 then
   chk (I64 (k4+1))<|
   bnd (nth a i5) fun x8=>
   if x8.number=(k4+1)then
    chk (I64 ((k4+1)+1))<|
    bnd (nth a i5) fun x9=>
    bnd (K0 ((k4+1)+1)) fun x10=>
    if x9.text=x10 then
     chk (I64 (((k4+1)+1)+1))<|
     bnd (nth a i5) fun x11=>
     bnd (t9 x11.items (((k4+1)+1)+1)) fun x12=>
     if x12<0 then
      some (-1)
     else
      chk (I64 (i5+1))<|
      go6 (x12,(i5+1))
    else
     some (-1)
   else
    some (-1)
  else
   some (-1)
 else
  some k4
def iG (t9:List PD→Int→Option Int)(a:List PD)(go:(Int×Int)→Option Int)(v:Int×Int):Option Int:=
 match v with
 |(k4,i5)=>K7 t9 a go k4 i5
def aR (t9:List PD→Int→Option Int)(a:List PD)(k:Int):Option Int:=
 itr (iG t9 a) LF (k,0)
def t9:Nat→List PD→Int→Option Int
 |0,_,_=>none
 |n+1,a,k=>aR (t9 n) a k
end Go.Abs

namespace Go.Abs
set_option linter.unusedVariables false
def sD (a:LI)(ap:Int):Option Int:=
 chk (I64 (ap-(a.length:Int)))<|
 if(ap-(a.length:Int))<0 then
  some (-1)
 else
  some (ap-(a.length:Int))
def iL (A0:PD→Int→Option Int)(D3:List PD→Int→Option Int)(a:PD)(ap:Int):Option Int:=
 chk (I64 (ap-(a.text.length:Int)))<|
 if(ap-(a.text.length:Int))<0 then
  some (-1)
 else
  bnd (D3 a.items (ap-(a.text.length:Int))) fun x5=>
  if x5<0 then
   some (-1)
  else
   some x5
def kM (A0:PD→Int→Option Int)(a:List PD)(go7:(Int×Int)→Option Int)(au i6:Int):Option Int:=
 if i6<(a.length:Int)then
  bnd (nth a i6) fun x8=>
  bnd (A0 x8 au) fun x9=>
  if x9<0 then
   some (-1)
  else
   chk (I64 (i6+1))<|
   go7 (x9,(i6+1))
 else
  some au
def oM (A0:PD→Int→Option Int)(a:List PD)(go:(Int×Int)→Option Int)(v:Int×Int):Option Int:=
 match v with
 |(au,i6)=>kM A0 a go au i6
def fC (A0:PD→Int→Option Int)(D3:List PD→Int→Option Int)(a:List PD)(ap:Int):Option Int:=
 chk (I64 (ap-(a.length:Int)))<|
 if(ap-(a.length:Int))<0 then
  some (-1)
 else
  itr (oM A0 a) LF ((ap-(a.length:Int)),0)
mutual
def A0:Nat→PD→Int→Option Int
 |0,_,_=>none
 |n+1,a,ap=>iL (A0 n) (D3 n) a ap
def D3:Nat→List PD→Int→Option Int
 |0,_,_=>none
 |n+1,a,ap=>fC (A0 n) (D3 n) a ap
end
def lT (B9:PC→Int→Option Int)(G9:List PC→Int→Option Int)(a:PC)(ap:Int):Option Int:=
 bnd (sD a.params ap) fun x5=>
 if x5<0 then
  some (-1)
 else
  bnd (A0 RF a.datum x5) fun x6=>
  if x6<0 then
   some (-1)
  else
   bnd (G9 a.kids x6) fun x7=>
   if x7<0 then
    some (-1)
   else
    some x7
def oL (B9:PC→Int→Option Int)(a:List PC)(go7:(Int×Int)→Option Int)(au i6:Int):Option Int:=
 if i6<(a.length:Int)then
  bnd (nth a i6) fun x8=>
  bnd (B9 x8 au) fun x9=>
  if x9<0 then
   some (-1)
  else
   chk (I64 (i6+1))<|
   go7 (x9,(i6+1))
 else
  some au
def qZ (B9:PC→Int→Option Int)(a:List PC)(go:(Int×Int)→Option Int)(v:Int×Int):Option Int:=
 match v with
 |(au,i6)=>oL B9 a go au i6
def iJ (B9:PC→Int→Option Int)(G9:List PC→Int→Option Int)(a:List PC)(ap:Int):Option Int:=
 chk (I64 (ap-(a.length:Int)))<|
 if(ap-(a.length:Int))<0 then
  some (-1)
 else
  itr (qZ B9 a) LF ((ap-(a.length:Int)),0)
mutual
def B9:Nat→PC→Int→Option Int
 |0,_,_=>none
 |n+1,a,ap=>lT (B9 n) (G9 n) a ap
def G9:Nat→List PC→Int→Option Int
 |0,_,_=>none
 |n+1,a,ap=>iJ (B9 n) (G9 n) a ap
end
def sE (a:PUnit')(ap:Int):Option Int:=
 chk (I64 (ap-(a.name.length:Int)))<|
 if(ap-(a.name.length:Int))<0 then
  some (-1)
 else
  bnd (sD a.globals (ap-(a.name.length:Int))) fun x3=>
  if x3<0 then
   some (-1)
  else
   bnd (B9 RF a.body x3) fun x4=>
   if x4<0 then
    some (-1)
   else
    some x4
def oN (a:List PUnit')(go5:(Int×Int)→Option Int)(db i4:Int):Option Int:=
 if i4<(a.length:Int)then
  bnd (nth a i4) fun x6=>
  bnd (sE x6 db) fun x7=>
  if x7<0 then
   some (-1)
  else
   chk (I64 (i4+1))<|
   go5 (x7,(i4+1))
 else
  some db
def rB (a:List PUnit')(go:(Int×Int)→Option Int)(v:Int×Int):Option Int:=
 match v with
 |(db,i4)=>oN a go db i4
def rA (a:List PUnit')(ap:Int):Option Int:=
 chk (I64 (ap-(a.length:Int)))<|
 if(ap-(a.length:Int))<0 then
  some (-1)
 else
  itr (rB a) LF ((ap-(a.length:Int)),0)
def rD (a:LI)(go4:(Int×LI)→Option (LI))(i2:Int)(aj:LI):Option (LI):=
 if i2<(a.length:Int)then
  bnd (nth a i2) fun x5=>
  bnd (nth aj i2) fun x6=>
  chk (I64 (i2+1))<|
  go4 ((i2+1),(aj.set i2.toNat x5))
 else
  some aj
def oQ (a:LI)(go:(Int×LI)→Option (LI))(v:Int×LI):Option (LI):=
 match v with
 |(i2,aj)=>rD a go i2 aj
def jM (a:LI):Option (LI):=
 chk (0≤(a.length:Int)∧(8:Nat) * (a.length:Int)≤281474976710656∧(a.length:Int)≤281474976710656)<|
 itr (oQ a) LF (0,(List.replicate (a.length:Int).toNat (0:Int)))
def iN (y8:PD→Option PD)(D4:List PD→Option (List PD))(a:PD):Option PD:=
 bnd (D4 a.items) fun x4=>
 some (PD.mk a.kind a.number a.text x4)
def kN (y8:PD→Option PD)(a:List PD)(go6:(Int×List PD)→Option (List PD))(i4:Int)(ai:List PD):Option (List PD):=
 if i4<(a.length:Int)then
  bnd (nth a i4) fun x7=>
  bnd (y8 x7) fun x8=>
  bnd (nth ai i4) fun x9=>
  chk (I64 (i4+1))<|
  go6 ((i4+1),(ai.set i4.toNat x8))
 else
  some ai
def oP (y8:PD→Option PD)(a:List PD)(go:(Int×List PD)→Option (List PD))(v:Int×List PD):Option (List PD):=
 match v with
 |(i4,ai)=>kN y8 a go i4 ai
def fD (y8:PD→Option PD)(D4:List PD→Option (List PD))(a:List PD):Option (List PD):=
 chk (0≤(a.length:Int)∧(56:Nat) * (a.length:Int)≤281474976710656∧(a.length:Int)≤281474976710656)<|
 itr (oP y8 a) LF (0,(List.replicate (a.length:Int).toNat ((PD.mk 0 0 ([]:LB) []):PD)))
mutual
def y8:Nat→PD→Option PD
 |0,_=>none
 |n+1,a=>iN (y8 n) (D4 n) a
def D4:Nat→List PD→Option (List PD)
 |0,_=>none
 |n+1,a=>fD (y8 n) (D4 n) a
end
def lU (B3:PC→Option PC)(I0:List PC→Option (List PC))(a:PC):Option PC:=
 bnd (jM a.params) fun x4=>
 bnd (y8 RF a.datum) fun x5=>
 bnd (I0 a.kids) fun x6=>
 some (PC.mk a.kind a.number x4 x5 x6)
def oO (B3:PC→Option PC)(a:List PC)(go6:(Int×List PC)→Option (List PC))(i4:Int)(ai:List PC):Option (List PC):=
 if i4<(a.length:Int)then
  bnd (nth a i4) fun x7=>
  bnd (B3 x7) fun x8=>
  bnd (nth ai i4) fun x9=>
  chk (I64 (i4+1))<|
  go6 ((i4+1),(ai.set i4.toNat x8))
 else
  some ai
def rC (B3:PC→Option PC)(a:List PC)(go:(Int×List PC)→Option (List PC))(v:Int×List PC):Option (List PC):=
 match v with
 |(i4,ai)=>oO B3 a go i4 ai
def iM (B3:PC→Option PC)(I0:List PC→Option (List PC))(a:List PC):Option (List PC):=
 chk (0≤(a.length:Int)∧(120:Nat) * (a.length:Int)≤281474976710656∧(a.length:Int)≤281474976710656)<|
 itr (rC B3 a) LF (0,(List.replicate (a.length:Int).toNat ((PC.mk 0 0 [] (PD.mk 0 0 ([]:LB) []) []):PC)))
mutual
def B3:Nat→PC→Option PC
 |0,_=>none
 |n+1,a=>lU (B3 n) (I0 n) a
def I0:Nat→List PC→Option (List PC)
 |0,_=>none
 |n+1,a=>iM (B3 n) (I0 n) a
end
def jN (a:PUnit'):Option PUnit':=
 bnd (jM a.globals) fun x2=>
 bnd (B3 RF a.body) fun x3=>
 some (PUnit'.mk a.name x2 x3)
def dF (a:List PUnit')(go4:(Int×List PUnit')→Option (List PUnit'))(i2:Int)(aj:List PUnit'):Option (List PUnit'):=
 if i2<(a.length:Int)then
  bnd (nth a i2) fun x5=>
  bnd (jN x5) fun x6=>
  bnd (nth aj i2) fun x7=>
  chk (I64 (i2+1))<|
  go4 ((i2+1),(aj.set i2.toNat x6))
 else
  some aj
def jO (a:List PUnit')(go:(Int×List PUnit')→Option (List PUnit'))(v:Int×List PUnit'):Option (List PUnit'):=
 match v with
 |(i2,aj)=>dF a go i2 aj
def aV (a:List PUnit'):Option (List PUnit'):=
 chk (0≤(a.length:Int)∧(160:Nat) * (a.length:Int)≤281474976710656∧(a.length:Int)≤281474976710656)<|
 itr (jO a) LF (0,(List.replicate (a.length:Int).toNat ((PUnit'.mk ([]:LB) [] (PC.mk 0 0 [] (PD.mk 0 0 ([]:LB) []) [])):PUnit')))
def qV (a b:LI)(go4:Int→Option Bool)(i3:Int):Option Bool:=
 if i3<(a.length:Int)then
  bnd (nth a i3) fun x5=>
  bnd (nth b i3) fun x6=>
  if x5=x6 then
   chk (I64 (i3+1))<|
   go4 (i3+1)
  else
   some false
 else
  some true
def oA (a b:LI)(go:Int→Option Bool)(v:Int):Option Bool:=
 match v with
 |i3=>qV a b go i3
def nZ (a b:LI):Option Bool:=
 if(a.length:Int)=(b.length:Int)then
  itr (oA a b) LF 0
 else
  some false
def iF (y7:PD→PD→Option Bool)(D2:List PD→List PD→Option Bool)(a b:PD):Option Bool:=
 if a.kind=b.kind then
  if a.number=b.number then
   if a.text=b.text then
    bnd (D2 a.items b.items) fun x5=>
    if x5=true then
     some true
    else
     some false
   else
    some false
  else
   some false
 else
  some false
def kD (y7:PD→PD→Option Bool)(a b:List PD)(go6:Int→Option Bool)(i5:Int):Option Bool:=
 if i5<(a.length:Int)then
  bnd (nth a i5) fun x7=>
  bnd (nth b i5) fun x8=>
  bnd (y7 x7 x8) fun x9=>
  if x9=true then
   chk (I64 (i5+1))<|
   go6 (i5+1)
  else
   some false
 else
  some true
def nY (y7:PD→PD→Option Bool)(a b:List PD)(go:Int→Option Bool)(v:Int):Option Bool:=
 match v with
 |i5=>kD y7 a b go i5
def fA (y7:PD→PD→Option Bool)(D2:List PD→List PD→Option Bool)(a b:List PD):Option Bool:=
 if(a.length:Int)=(b.length:Int)then
  itr (nY y7 a b) LF 0
 else
  some false
mutual
def y7:Nat→PD→PD→Option Bool
 |0,_,_=>none
 |n+1,a,b=>iF (y7 n) (D2 n) a b
def D2:Nat→List PD→List PD→Option Bool
 |0,_,_=>none
 |n+1,a,b=>fA (y7 n) (D2 n) a b
end
def lR (B6:PC→PC→Option Bool)(G8:List PC→List PC→Option Bool)(a b:PC):Option Bool:=
 if a.kind=b.kind then
  if a.number=b.number then
   bnd (nZ a.params b.params) fun x5=>
   if x5=true then
    bnd (y7 RF a.datum b.datum) fun x6=>
    if x6=true then
     bnd (G8 a.kids b.kids) fun x7=>
     if x7=true then
      some true
     else
      some false
    else
     some false
   else
    some false
  else
   some false
 else
  some false
def nX (B6:PC→PC→Option Bool)(a b:List PC)(go6:Int→Option Bool)(i5:Int):Option Bool:=
 if i5<(a.length:Int)then
  bnd (nth a i5) fun x7=>
  bnd (nth b i5) fun x8=>
  bnd (B6 x7 x8) fun x9=>
  if x9=true then
   chk (I64 (i5+1))<|
   go6 (i5+1)
  else
   some false
 else
  some true
def qU (B6:PC→PC→Option Bool)(a b:List PC)(go:Int→Option Bool)(v:Int):Option Bool:=
 match v with
 |i5=>nX B6 a b go i5
def iD (B6:PC→PC→Option Bool)(G8:List PC→List PC→Option Bool)(a b:List PC):Option Bool:=
 if(a.length:Int)=(b.length:Int)then
  itr (qU B6 a b) LF 0
 else
  some false
mutual
def B6:Nat→PC→PC→Option Bool
 |0,_,_=>none
 |n+1,a,b=>lR (B6 n) (G8 n) a b
def G8:Nat→List PC→List PC→Option Bool
 |0,_,_=>none
 |n+1,a,b=>iD (B6 n) (G8 n) a b
end
def sC (a b:PUnit'):Option Bool:=
 if a.name=b.name then
  bnd (nZ a.globals b.globals) fun x3=>
  if x3=true then
   bnd (B6 RF a.body b.body) fun x4=>
   if x4=true then
    some true
   else
    some false
  else
   some false
 else
  some false
def oB (a b:List PUnit')(go4:Int→Option Bool)(i3:Int):Option Bool:=
 if i3<(a.length:Int)then
  bnd (nth a i3) fun x5=>
  bnd (nth b i3) fun x6=>
  bnd (sC x5 x6) fun x7=>
  if x7=true then
   chk (I64 (i3+1))<|
   go4 (i3+1)
  else
   some false
 else
  some true
def qW (a b:List PUnit')(go:Int→Option Bool)(v:Int):Option Bool:=
 match v with
 |i3=>oB a b go i3
def fB (a b:List PUnit'):Option Bool:=
 if(a.length:Int)=(b.length:Int)then
  itr (qW a b) LF 0
 else
  some false
def Q1 (go6:(Int×Int×LI)→Option (Int×LI))(k3 i4:Int)(a5:LI):Option (Int×LI):=
 if i4<(a5.length:Int)then
  bnd (nth a5 i4) fun x7=>
  chk (I64 (k3+1))<|
  chk (I64 (i4+1))<|
  go6 ((k3+1),(i4+1),(a5.set i4.toNat k3))
 else
  some (k3,a5)
def oG (go:(Int×Int×LI)→Option (Int×LI))(v:Int×Int×LI):Option (Int×LI):=
 match v with
 |(k3,i4,a5)=>Q1 go k3 i4 a5
def W7 (a:LI)(k:Int):Option (Int×LI):=
 itr oG LF (k,0,a)
def N4 (z6:List PC→Int→Option (Int×List PC))(go7:(Int×Int×List PC)→Option (Int×List PC))(k4 i5:Int)(a6:List PC):Option (Int×List PC):=
 if i5<(a6.length:Int)then
  bnd (nth a6 i5) fun x8=>
  chk (I64 (k4+1))<|
  bnd (nth (a6.set i5.toNat (PC.mk k4 x8.number x8.params x8.datum x8.kids)) i5) fun x9=>
  chk (I64 ((k4+1)+1))<|
  bnd (nth ((a6.set i5.toNat (PC.mk k4 x8.number x8.params x8.datum x8.kids)).set i5.toNat (PC.mk x9.kind (k4+1) x9.params x9.datum x9.kids)) i5) fun x10=>
  bnd (W7 x10.params ((k4+1)+1)) fun x11=>
  chk (x11.2.length=x10.params.length)<|
  bnd (nth (((a6.set i5.toNat (PC.mk k4 x8.number x8.params x8.datum x8.kids)).set i5.toNat (PC.mk x9.kind (k4+1) x9.params x9.datum x9.kids)).set i5.toNat (PC.mk x10.kind x10.number x11.2 x10.datum x10.kids)) i5) fun x12=>
  chk (I64 (x11.1+1))<|
  bnd (nth ((((a6.set i5.toNat (PC.mk k4 x8.number x8.params x8.datum x8.kids)).set i5.toNat (PC.mk x9.kind (k4+1) x9.params x9.datum x9.kids)).set i5.toNat (PC.mk x10.kind x10.number x11.2 x10.datum x10.kids)).set i5.toNat (PC.mk x12.kind x12.number x12.params (PD.mk x11.1 x12.datum.number x12.datum.text x12.datum.items) x12.kids)) i5) fun x13=>
  chk (I64 ((x11.1+1)+1))<|
  bnd (K0 ((x11.1+1)+1)) fun x14=>
  bnd (nth (((((a6.set i5.toNat (PC.mk k4 x8.number x8.params x8.datum x8.kids)).set i5.toNat (PC.mk x9.kind (k4+1) x9.params x9.datum x9.kids)).set i5.toNat (PC.mk x10.kind x10.number x11.2 x10.datum x10.kids)).set i5.toNat (PC.mk x12.kind x12.number x12.params (PD.mk x11.1 x12.datum.number x12.datum.text x12.datum.items) x12.kids)).set i5.toNat (PC.mk x13.kind x13.number x13.params (PD.mk x13.datum.kind (x11.1+1) x13.datum.text x13.datum.items) x13.kids)) i5) fun x15=>
  chk (I64 (((x11.1+1)+1)+1))<|
  bnd (nth ((((((a6.set i5.toNat (PC.mk k4 x8.number x8.params x8.datum x8.kids)).set i5.toNat (PC.mk x9.kind (k4+1) x9.params x9.datum x9.kids)).set i5.toNat (PC.mk x10.kind x10.number x11.2 x10.datum x10.kids)).set i5.toNat (PC.mk x12.kind x12.number x12.params (PD.mk x11.1 x12.datum.number x12.datum.text x12.datum.items) x12.kids)).set i5.toNat (PC.mk x13.kind x13.number x13.params (PD.mk x13.datum.kind (x11.1+1) x13.datum.text x13.datum.items) x13.kids)).set i5.toNat (PC.mk x15.kind x15.number x15.params (PD.mk x15.datum.kind x15.datum.number x14 x15.datum.items) x15.kids)) i5) fun x16=>
  bnd (u4 RF x16.datum.items (((x11.1+1)+1)+1)) fun x17=>
  chk (x17.2.length=x16.datum.items.length)<|
  bnd (nth (((((((a6.set i5.toNat (PC.mk k4 x8.number x8.params x8.datum x8.kids)).set i5.toNat (PC.mk x9.kind (k4+1) x9.params x9.datum x9.kids)).set i5.toNat (PC.mk x10.kind x10.number x11.2 x10.datum x10.kids)).set i5.toNat (PC.mk x12.kind x12.number x12.params (PD.mk x11.1 x12.datum.number x12.datum.text x12.datum.items) x12.kids)).set i5.toNat (PC.mk x13.kind x13.number x13.params (PD.mk x13.datum.kind (x11.1+1) x13.datum.text x13.datum.items) x13.kids)).set i5.toNat (PC.mk x15.kind x15.number x15.params (PD.mk x15.datum.kind x15.datum.number x14 x15.datum.items) x15.kids)).set i5.toNat (PC.mk x16.kind x16.number x16.params (PD.mk x16.datum.kind x16.datum.number x16.datum.text x17.2) x16.kids)) i5) fun x18=>
  bnd (z6 x18.kids x17.1) fun x19=>
  chk (x19.2.length=x18.kids.length)<|
  chk (I64 (i5+1))<|
  go7 (x19.1,(i5+1),((((((((a6.set i5.toNat (PC.mk k4 x8.number x8.params x8.datum x8.kids)).set i5.toNat (PC.mk x9.kind (k4+1) x9.params x9.datum x9.kids)).set i5.toNat (PC.mk x10.kind x10.number x11.2 x10.datum x10.kids)).set i5.toNat (PC.mk x12.kind x12.number x12.params (PD.mk x11.1 x12.datum.number x12.datum.text x12.datum.items) x12.kids)).set i5.toNat (PC.mk x13.kind x13.number x13.params (PD.mk x13.datum.kind (x11.1+1) x13.datum.text x13.datum.items) x13.kids)).set i5.toNat (PC.mk x15.kind x15.number x15.params (PD.mk x15.datum.kind x15.datum.number x14 x15.datum.items) x15.kids)).set i5.toNat (PC.mk x16.kind x16.number x16.params (PD.mk x16.datum.kind x16.datum.number x16.datum.text x17.2) x16.kids)).set i5.toNat (PC.mk x18.kind x18.number x18.params x18.datum x19.2)))
 else
  some (k4,a6)
def kI (z6:List PC→Int→Option (Int×List PC))(go:(Int×Int×List PC)→Option (Int×List PC))(v:Int×Int×List PC):Option (Int×List PC):=
 match v with
 |(k4,i5,a6)=>N4 z6 go k4 i5 a6
def dC (z6:List PC→Int→Option (Int×List PC))(a:List PC)(k:Int):Option (Int×List PC):=
 itr (kI z6) LF (k,0,a)
def z6:Nat→List PC→Int→Option (Int×List PC)
 |0,_,_=>none
 |n+1,a,k=>dC (z6 n) a k
def N5 (go6:(Int×Int×List PUnit')→Option (Int×List PUnit'))(k3 i4:Int)(a5:List PUnit'):Option (Int×List PUnit'):=
 if i4<(a5.length:Int)then
  bnd (K0 k3) fun x7=>
  bnd (nth a5 i4) fun x8=>
  chk (I64 (k3+1))<|
  bnd (nth (a5.set i4.toNat (PUnit'.mk x7 x8.globals x8.body)) i4) fun x9=>
  bnd (W7 x9.globals (k3+1)) fun x10=>
  chk (x10.2.length=x9.globals.length)<|
  bnd (nth ((a5.set i4.toNat (PUnit'.mk x7 x8.globals x8.body)).set i4.toNat (PUnit'.mk x9.name x10.2 x9.body)) i4) fun x11=>
  chk (I64 (x10.1+1))<|
  bnd (nth (((a5.set i4.toNat (PUnit'.mk x7 x8.globals x8.body)).set i4.toNat (PUnit'.mk x9.name x10.2 x9.body)).set i4.toNat (PUnit'.mk x11.name x11.globals (PC.mk x10.1 x11.body.number x11.body.params x11.body.datum x11.body.kids))) i4) fun x12=>
  chk (I64 ((x10.1+1)+1))<|
  bnd (nth ((((a5.set i4.toNat (PUnit'.mk x7 x8.globals x8.body)).set i4.toNat (PUnit'.mk x9.name x10.2 x9.body)).set i4.toNat (PUnit'.mk x11.name x11.globals (PC.mk x10.1 x11.body.number x11.body.params x11.body.datum x11.body.kids))).set i4.toNat (PUnit'.mk x12.name x12.globals (PC.mk x12.body.kind (x10.1+1) x12.body.params x12.body.datum x12.body.kids))) i4) fun x13=>
  bnd (W7 x13.body.params ((x10.1+1)+1)) fun x14=>
  chk (x14.2.length=x13.body.params.length)<|
  bnd (nth (((((a5.set i4.toNat (PUnit'.mk x7 x8.globals x8.body)).set i4.toNat (PUnit'.mk x9.name x10.2 x9.body)).set i4.toNat (PUnit'.mk x11.name x11.globals (PC.mk x10.1 x11.body.number x11.body.params x11.body.datum x11.body.kids))).set i4.toNat (PUnit'.mk x12.name x12.globals (PC.mk x12.body.kind (x10.1+1) x12.body.params x12.body.datum x12.body.kids))).set i4.toNat (PUnit'.mk x13.name x13.globals (PC.mk x13.body.kind x13.body.number x14.2 x13.body.datum x13.body.kids))) i4) fun x15=>
  chk (I64 (x14.1+1))<|
  bnd (nth ((((((a5.set i4.toNat (PUnit'.mk x7 x8.globals x8.body)).set i4.toNat (PUnit'.mk x9.name x10.2 x9.body)).set i4.toNat (PUnit'.mk x11.name x11.globals (PC.mk x10.1 x11.body.number x11.body.params x11.body.datum x11.body.kids))).set i4.toNat (PUnit'.mk x12.name x12.globals (PC.mk x12.body.kind (x10.1+1) x12.body.params x12.body.datum x12.body.kids))).set i4.toNat (PUnit'.mk x13.name x13.globals (PC.mk x13.body.kind x13.body.number x14.2 x13.body.datum x13.body.kids))).set i4.toNat (PUnit'.mk x15.name x15.globals (PC.mk x15.body.kind x15.body.number x15.body.params (PD.mk x14.1 x15.body.datum.number x15.body.datum.text x15.body.datum.items) x15.body.kids))) i4) fun x16=>
  chk (I64 ((x14.1+1)+1))<|
  bnd (K0 ((x14.1+1)+1)) fun x17=>
  bnd (nth (((((((a5.set i4.toNat (PUnit'.mk x7 x8.globals x8.body)).set i4.toNat (PUnit'.mk x9.name x10.2 x9.body)).set i4.toNat (PUnit'.mk x11.name x11.globals (PC.mk x10.1 x11.body.number x11.body.params x11.body.datum x11.body.kids))).set i4.toNat (PUnit'.mk x12.name x12.globals (PC.mk x12.body.kind (x10.1+1) x12.body.params x12.body.datum x12.body.kids))).set i4.toNat (PUnit'.mk x13.name x13.globals (PC.mk x13.body.kind x13.body.number x14.2 x13.body.datum x13.body.kids))).set i4.toNat (PUnit'.mk x15.name x15.globals (PC.mk x15.body.kind x15.body.number x15.body.params (PD.mk x14.1 x15.body.datum.number x15.body.datum.text x15.body.datum.items) x15.body.kids))).set i4.toNat (PUnit'.mk x16.name x16.globals (PC.mk x16.body.kind x16.body.number x16.body.params (PD.mk x16.body.datum.kind (x14.1+1) x16.body.datum.text x16.body.datum.items) x16.body.kids))) i4) fun x18=>
  chk (I64 (((x14.1+1)+1)+1))<|
  bnd (nth ((((((((a5.set i4.toNat (PUnit'.mk x7 x8.globals x8.body)).set i4.toNat (PUnit'.mk x9.name x10.2 x9.body)).set i4.toNat (PUnit'.mk x11.name x11.globals (PC.mk x10.1 x11.body.number x11.body.params x11.body.datum x11.body.kids))).set i4.toNat (PUnit'.mk x12.name x12.globals (PC.mk x12.body.kind (x10.1+1) x12.body.params x12.body.datum x12.body.kids))).set i4.toNat (PUnit'.mk x13.name x13.globals (PC.mk x13.body.kind x13.body.number x14.2 x13.body.datum x13.body.kids))).set i4.toNat (PUnit'.mk x15.name x15.globals (PC.mk x15.body.kind x15.body.number x15.body.params (PD.mk x14.1 x15.body.datum.number x15.body.datum.text x15.body.datum.items) x15.body.kids))).set i4.toNat (PUnit'.mk x16.name x16.globals (PC.mk x16.body.kind x16.body.number x16.body.params (PD.mk x16.body.datum.kind (x14.1+1) x16.body.datum.text x16.body.datum.items) x16.body.kids))).set i4.toNat (PUnit'.mk x18.name x18.globals (PC.mk x18.body.kind x18.body.number x18.body.params (PD.mk x18.body.datum.kind x18.body.datum.number x17 x18.body.datum.items) x18.body.kids))) i4) fun x19=>
  bnd (u4 RF x19.body.datum.items (((x14.1+1)+1)+1)) fun x20=>
  chk (x20.2.length=x19.body.datum.items.length)<|
  bnd (nth (((((((((a5.set i4.toNat (PUnit'.mk x7 x8.globals x8.body)).set i4.toNat (PUnit'.mk x9.name x10.2 x9.body)).set i4.toNat (PUnit'.mk x11.name x11.globals (PC.mk x10.1 x11.body.number x11.body.params x11.body.datum x11.body.kids))).set i4.toNat (PUnit'.mk x12.name x12.globals (PC.mk x12.body.kind (x10.1+1) x12.body.params x12.body.datum x12.body.kids))).set i4.toNat (PUnit'.mk x13.name x13.globals (PC.mk x13.body.kind x13.body.number x14.2 x13.body.datum x13.body.kids))).set i4.toNat (PUnit'.mk x15.name x15.globals (PC.mk x15.body.kind x15.body.number x15.body.params (PD.mk x14.1 x15.body.datum.number x15.body.datum.text x15.body.datum.items) x15.body.kids))).set i4.toNat (PUnit'.mk x16.name x16.globals (PC.mk x16.body.kind x16.body.number x16.body.params (PD.mk x16.body.datum.kind (x14.1+1) x16.body.datum.text x16.body.datum.items) x16.body.kids))).set i4.toNat (PUnit'.mk x18.name x18.globals (PC.mk x18.body.kind x18.body.number x18.body.params (PD.mk x18.body.datum.kind x18.body.datum.number x17 x18.body.datum.items) x18.body.kids))).set i4.toNat (PUnit'.mk x19.name x19.globals (PC.mk x19.body.kind x19.body.number x19.body.params (PD.mk x19.body.datum.kind x19.body.datum.number x19.body.datum.text x20.2) x19.body.kids))) i4) fun x21=>
  bnd (z6 RF x21.body.kids x20.1) fun x22=>
  chk (x22.2.length=x21.body.kids.length)<|
  chk (I64 (i4+1))<|
  go6 (x22.1,(i4+1),((((((((((a5.set i4.toNat (PUnit'.mk x7 x8.globals x8.body)).set i4.toNat (PUnit'.mk x9.name x10.2 x9.body)).set i4.toNat (PUnit'.mk x11.name x11.globals (PC.mk x10.1 x11.body.number x11.body.params x11.body.datum x11.body.kids))).set i4.toNat (PUnit'.mk x12.name x12.globals (PC.mk x12.body.kind (x10.1+1) x12.body.params x12.body.datum x12.body.kids))).set i4.toNat (PUnit'.mk x13.name x13.globals (PC.mk x13.body.kind x13.body.number x14.2 x13.body.datum x13.body.kids))).set i4.toNat (PUnit'.mk x15.name x15.globals (PC.mk x15.body.kind x15.body.number x15.body.params (PD.mk x14.1 x15.body.datum.number x15.body.datum.text x15.body.datum.items) x15.body.kids))).set i4.toNat (PUnit'.mk x16.name x16.globals (PC.mk x16.body.kind x16.body.number x16.body.params (PD.mk x16.body.datum.kind (x14.1+1) x16.body.datum.text x16.body.datum.items) x16.body.kids))).set i4.toNat (PUnit'.mk x18.name x18.globals (PC.mk x18.body.kind x18.body.number x18.body.params (PD.mk x18.body.datum.kind x18.body.datum.number x17 x18.body.datum.items) x18.body.kids))).set i4.toNat (PUnit'.mk x19.name x19.globals (PC.mk x19.body.kind x19.body.number x19.body.params (PD.mk x19.body.datum.kind x19.body.datum.number x19.body.datum.text x20.2) x19.body.kids))).set i4.toNat (PUnit'.mk x21.name x21.globals (PC.mk x21.body.kind x21.body.number x21.body.params x21.body.datum x22.2))))
 else
  some (k3,a5)
def kL (go:(Int×Int×List PUnit')→Option (Int×List PUnit'))(v:Int×Int×List PUnit'):Option (Int×List PUnit'):=
 match v with
 |(k3,i4,a5)=>N5 go k3 i4 a5
def eB (a:List PUnit')(k:Int):Option (Int×List PUnit'):=
 itr kL LF (k,0,a)
def Q0 (a:LI)(go5:(Int×Int)→Option Int)(k3 i4:Int):Option Int:=
 if i4<(a.length:Int)then
  bnd (nth a i4) fun x6=>
  if x6=k3 then
   chk (I64 (k3+1))<|
   chk (I64 (i4+1))<|
   go5 ((k3+1),(i4+1))
  else
   some (-1)
 else
  some k3
def oD (a:LI)(go:(Int×Int)→Option Int)(v:Int×Int):Option Int:=
 match v with
 |(k3,i4)=>Q0 a go k3 i4
def W6 (a:LI)(k:Int):Option Int:=
 itr (oD a) LF (k,0)
def N2 (z5:List PC→Int→Option Int)(a:List PC)(go6:(Int×Int)→Option Int)(k4 i5:Int):Option Int:=
 if i5<(a.length:Int)then
  bnd (nth a i5) fun x7=>
  if x7.kind=k4 then
   chk (I64 (k4+1))<|
   bnd (nth a i5) fun x8=>
   if x8.number=(k4+1)then
    chk (I64 ((k4+1)+1))<|
    bnd (nth a i5) fun x9=>
    bnd (W6 x9.params ((k4+1)+1)) fun x10=>
    if x10<0 then
     some (-1)
    else
     bnd (nth a i5) fun x11=>
     if x11.datum.kind=x10 then
      chk (I64 (x10+1))<|
      bnd (nth a i5) fun x12=>
      if x12.datum.number=(x10+1)then
       chk (I64 ((x10+1)+1))<|
       bnd (nth a i5) fun x13=>
       bnd (K0 ((x10+1)+1)) fun x14=>
       if x13.datum.text=x14 then
        chk (I64 (((x10+1)+1)+1))<|
        bnd (nth a i5) fun x15=>
        bnd (t9 RF x15.datum.items (((x10+1)+1)+1)) fun x16=>
        if x16<0 then
         some (-1)
        else
         bnd (nth a i5) fun x17=>
         bnd (z5 x17.kids x16) fun x18=>
         if x18<0 then
          some (-1)
         else
          chk (I64 (i5+1))<|
          go6 (x18,(i5+1))
       else
        some (-1)
      else
       some (-1)
     else
      some (-1)
   else
    some (-1)
  else
   some (-1)
 else
  some k4
def kE (z5:List PC→Int→Option Int)(a:List PC)(go:(Int×Int)→Option Int)(v:Int×Int):Option Int:=
 match v with
 |(k4,i5)=>N2 z5 a go k4 i5
def dB (z5:List PC→Int→Option Int)(a:List PC)(k:Int):Option Int:=
 itr (kE z5 a) LF (k,0)
def z5:Nat→List PC→Int→Option Int
 |0,_,_=>none
 |n+1,a,k=>dB (z5 n) a k
def N3 (a:List PUnit')(go5:(Int×Int)→Option Int)(k3 i4:Int):Option Int:=
 if i4<(a.length:Int)then
  bnd (nth a i4) fun x6=>
  bnd (K0 k3) fun x7=>
  if x6.name=x7 then
   chk (I64 (k3+1))<|
   bnd (nth a i4) fun x8=>
   bnd (W6 x8.globals (k3+1)) fun x9=>
   if x9<0 then
    some (-1)
   else
    bnd (nth a i4) fun x10=>
    if x10.body.kind=x9 then
     chk (I64 (x9+1))<|
     bnd (nth a i4) fun x11=>
     if x11.body.number=(x9+1)then
      chk (I64 ((x9+1)+1))<|
      bnd (nth a i4) fun x12=>
      bnd (W6 x12.body.params ((x9+1)+1)) fun x13=>
      if x13<0 then
       some (-1)
      else
       bnd (nth a i4) fun x14=>
       if x14.body.datum.kind=x13 then
        chk (I64 (x13+1))<|
        bnd (nth a i4) fun x15=>
        if x15.body.datum.number=(x13+1)then
         chk (I64 ((x13+1)+1))<|
         bnd (nth a i4) fun x16=>
         bnd (K0 ((x13+1)+1)) fun x17=>
         if x16.body.datum.text=x17 then
          chk (I64 (((x13+1)+1)+1))<|
          bnd (nth a i4) fun x18=>
          bnd (t9 RF x18.body.datum.items (((x13+1)+1)+1)) fun x19=>
          if x19<0 then
           some (-1)
          else
           bnd (nth a i4) fun x20=>
           bnd (z5 RF x20.body.kids x19) fun x21=>
           if x21<0 then
            some (-1)
           else
            chk (I64 (i4+1))<|
            go5 (x21,(i4+1))
         else
          some (-1)
        else
         some (-1)
       else
        some (-1)
     else
      some (-1)
    else
     some (-1)
  else
   some (-1)
 else
  some k3
def kG (a:List PUnit')(go:(Int×Int)→Option Int)(v:Int×Int):Option Int:=
 match v with
 |(k3,i4)=>N3 a go k3 i4
def eA (a:List PUnit')(k:Int):Option Int:=
 itr (kG a) LF (k,0)
def N7 (bf:List PUnit'):Option Bool:=
 bnd (rA bf 1048576) fun x2=>
 if x2<0 then
  some true
 else
  bnd (aV bf) fun x3=>
  bnd (Y9 x3) fun x4=>
  bnd (aV bf) fun x5=>
  bnd (Q8 x5) fun x6=>
  bnd (fB x6.1 x4.1) fun x7=>
  if x7=true then
   if x6.2=x4.2 then
    bnd (aV bf) fun x8=>
    bnd (fB x5 x8) fun x9=>
    if x9=true then
     bnd (eB x5 1) fun x10=>
     chk (x10.2.length=x5.length)<|
     if x10.1<0 then
      some false
     else
      bnd (fB x6.1 x4.1) fun x11=>
      if x11=true then
       if x6.2=x4.2 then
        bnd (eB x6.1 1) fun x12=>
        chk (x12.2.length=x6.1.length)<|
        bnd (eA x12.2 1) fun x13=>
        if x13<0 then
         some false
        else
         if x13=x12.1 then
          bnd (aV bf) fun x14=>
          bnd (Q8 x14) fun x15=>
          bnd (fB x15.1 x4.1) fun x16=>
          if x16=true then
           if x15.2=x4.2 then
            bnd (eA x12.2 1) fun x17=>
            if x17<0 then
             some false
            else
             if x17=x12.1 then
              some true
             else
              some false
           else
            some false
          else
           some false
         else
          some false
       else
        some false
      else
       some false
    else
     some false
   else
    some false
  else
   some false
end Go.Abs
