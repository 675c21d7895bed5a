
import Derived.Test.YtllbdfllngpkaaaGreatLibD
import Derived.Test.YtllbdfllngpkaaaGreatLibE
set_option linter.unusedVariables false
set_option linter.unusedSimpArgs false
namespace Go.Abs
set_option linter.unusedVariables false
def I6 (ar:LI)(x_1:Int)(x4:MI):Option (LI×(Option (MI))):=
 if(mget x4 x_1)=0 then
  chk ((ar.length+([x_1]:LI).length) * 8≤140737488355328)<|
  some ((ar++([x_1]:LI)),(some (mput x4 x_1 1)))
 else
  some (ar,(some x4))
def I5 (ar:LI)(bn:Option (MI))(x_1:Int):Option (LI×(Option (MI))):=
 if bn=none then
  I6 ar x_1 ([]:MI)
 else
  bnd (bn) fun x4=>
  I6 ar x_1 x4
def aE (c:PC)(x14:LI)(x15:Option (MI))(cr:(Int×(MI))→Option ((MI)×LI×(Option (MI))))(x17:Int)(ck:MI):Option ((MI)×LI×(Option (MI))):=
 if x17<(c.params.length:Int)then
  bnd (nth c.params x17) fun x20=>
  chk (I64 ((mget ck x20)-1))<|
  chk (I64 (x17+1))<|
  cr ((x17+1),(mput ck x20 ((mget ck x20)-1)))
 else
  some (ck,x14,x15)
def mA (c:PC)(x14:LI)(x15:Option (MI))(go:(Int×(MI))→Option ((MI)×LI×(Option (MI))))(v:Int×(MI)):Option ((MI)×LI×(Option (MI))):=
 match v with
 |(x17,ck)=>aE c x14 x15 go x17 ck
def aD (w4:PC→MI→LI→Option (MI)→Option ((MI)×LI×(Option (MI))))(c:PC)(go16:(Int×(MI)×LI×(Option (MI)))→Option ((MI)×LI×(Option (MI))))(x12:Int)(cl:MI)(x14:LI)(x15:Option (MI)):Option ((MI)×LI×(Option (MI))):=
 if x12<(c.kids.length:Int)then
  bnd (nth c.kids x12) fun x17=>
  bnd (w4 x17 cl x14 x15) fun x18=>
  chk (I64 (x12+1))<|
  go16 ((x12+1),x18.1,x18.2.1,x18.2.2)
 else
  itr (mA c x14 x15) LF (0,cl)
def lZ (w4:PC→MI→LI→Option (MI)→Option ((MI)×LI×(Option (MI))))(c:PC)(go:(Int×(MI)×LI×(Option (MI)))→Option ((MI)×LI×(Option (MI))))(v:Int×(MI)×LI×(Option (MI))):Option ((MI)×LI×(Option (MI))):=
 match v with
 |(x12,cl,x14,x15)=>aD w4 c go x12 cl x14 x15
def aB (w4:PC→MI→LI→Option (MI)→Option ((MI)×LI×(Option (MI))))(c:PC)(x7:LI)(x8:Option (MI))(go11:(Int×(MI))→Option ((MI)×LI×(Option (MI))))(x9:Int)(cd:MI):Option ((MI)×LI×(Option (MI))):=
 if x9<(c.params.length:Int)then
  bnd (nth c.params x9) fun x12=>
  chk (I64 ((mget cd x12)+1))<|
  chk (I64 (x9+1))<|
  go11 ((x9+1),(mput cd x12 ((mget cd x12)+1)))
 else
  itr (lZ w4 c) LF (0,cd,x7,x8)
def rK (w4:PC→MI→LI→Option (MI)→Option ((MI)×LI×(Option (MI))))(c:PC)(x7:LI)(x8:Option (MI))(go:(Int×(MI))→Option ((MI)×LI×(Option (MI))))(v:Int×(MI)):Option ((MI)×LI×(Option (MI))):=
 match v with
 |(x9,cd)=>aB w4 c x7 x8 go x9 cd
def bO (w4:PC→MI→LI→Option (MI)→Option ((MI)×LI×(Option (MI))))(c:PC)(au:MI)(x7:LI)(x8:Option (MI)):Option ((MI)×LI×(Option (MI))):=
 itr (rK w4 c x7 x8) LF (0,au)
def aA (w4:PC→MI→LI→Option (MI)→Option ((MI)×LI×(Option (MI))))(c:PC)(au:MI)(ar:LI)(bn:Option (MI))(x6:Bool):Option ((MI)×LI×(Option (MI))):=
 if x6=true then
  bnd (I5 ar bn c.number) fun x7=>
  bO w4 c au x7.1 x7.2
 else
  bO w4 c au ar bn
def kK (w4:PC→MI→LI→Option (MI)→Option ((MI)×LI×(Option (MI))))(c:PC)(au:MI)(ar:LI)(bn:Option (MI)):Option ((MI)×LI×(Option (MI))):=
 if c.kind=2 then
  aA w4 c au ar bn (decide ((mget au c.number)=0))
 else
  if c.kind=4 then
   aA w4 c au ar bn (decide ((mget au c.number)=0))
  else
   aA w4 c au ar bn false
def w4:Nat→PC→MI→LI→Option (MI)→Option ((MI)×LI×(Option (MI)))
 |0,_,_,_,_=>none
 |n+1,c,au,ar,bn=>kK (w4 n) c au ar bn
def L9 (c:PC):Option (LI):=
 bnd (w4 RF c ([]:MI) [] (none:Option (MI))) fun x2=>
 some x2.2.1
def fR (A6:PD→PD→Option Bool)(a b:PD)(go5:Int→Option Bool)(x4:Int):Option Bool:=
 if x4<(a.items.length:Int)then
  bnd (nth a.items x4) fun x6=>
  bnd (nth b.items x4) fun x7=>
  bnd (A6 x6 x7) fun x8=>
  if x8=true then
   chk (I64 (x4+1))<|
   go5 (x4+1)
  else
   some false
 else
  some true
def jI (A6:PD→PD→Option Bool)(a b:PD)(go:Int→Option Bool)(v:Int):Option Bool:=
 match v with
 |x4=>fR A6 a b go x4
def cK (A6:PD→PD→Option Bool)(a b:PD):Option Bool:=
 if a.kind=b.kind then
  if a.number=b.number then
   if a.text=b.text then
    if(a.items.length:Int)=(b.items.length:Int)then
     itr (jI A6 a b) LF 0
    else
     some false
   else
    some false
  else
   some false
 else
  some false
def A6:Nat→PD→PD→Option Bool
 |0,_,_=>none
 |n+1,a,b=>cK (A6 n) a b
def kL (b:Int):Option Bool:=
 if b≥48 then
  some (decide (b≤57))
 else
  some false
def F9 (b:Int)(x2:Bool):Option Bool:=
 if x2=true then
  some true
 else
  if b=33 then
   some true
  else
   if b=63 then
    some true
   else
    if b=42 then
     some true
    else
     if b=60 then
      some true
     else
      if b=62 then
       some true
      else
       if b=61 then
        some true
       else
        if b=47 then
         some true
        else
         if b=43 then
          some true
         else
          if b=45 then
           some true
          else
           if b=46 then
            some true
           else
            if b=95 then
             some true
            else
             some false
def eE (b:Int):Option Bool:=
 if b≥97 then
  if b≤122 then
   F9 b true
  else
   if b≥48 then
    F9 b (decide (b≤57))
   else
    F9 b false
 else
  if b≥48 then
   F9 b (decide (b≤57))
  else
   F9 b false
def S7 (s:LB)(go4:Int→Option Bool)(i3:Int):Option Bool:=
 if i3<(s.length:Int)then
  bnd (nth s i3) fun x5=>
  bnd (eE (x5.toNat:Int)) fun x6=>
  if x6=true then
   chk (I64 (i3+1))<|
   go4 (i3+1)
  else
   some false
 else
  some true
def lS (s:LB)(go:Int→Option Bool)(v:Int):Option Bool:=
 match v with
 |i3=>S7 s go i3
def I2 (s:LB)(x2:Bool):Option Bool:=
 if x2=true then
  some false
 else
  itr (lS s) LF 0
def kI (s:LB):Option Bool:=
 if(s.length:Int)<1 then
  I2 s true
 else
  if(s.length:Int)>16 then
   I2 s true
  else
   bnd (nth s 0) fun x2=>
   bnd (kL (x2.toNat:Int)) fun x3=>
   if x3=true then
    I2 s true
   else
    bnd (nth s 0) fun x4=>
    if(x4.toNat:Int)=45 then
     if(s.length:Int)>1 then
      bnd (nth s 1) fun x5=>
      bnd (kL (x5.toNat:Int)) fun x6=>
      I2 s x6
     else
      I2 s false
    else
     I2 s false
def M7 (s:LB)(go3:Int→Option Bool)(i2:Int):Option Bool:=
 if i2<(s.length:Int)then
  bnd (nth s i2) fun x4=>
  if(x4.toNat:Int)<32 then
   some false
  else
   bnd (nth s i2) fun x5=>
   if(x5.toNat:Int)>126 then
    some false
   else
    bnd (nth s i2) fun x6=>
    if(x6.toNat:Int)=34 then
     some false
    else
     chk (I64 (i2+1))<|
     go3 (i2+1)
 else
  some true
def gC (s:LB)(go:Int→Option Bool)(v:Int):Option Bool:=
 match v with
 |i2=>M7 s go i2
def eD (s:LB):Option Bool:=
 if(s.length:Int)>20 then
  some false
 else
  itr (gC s) LF 0
def gB (kind number:Int)(text:LB)(items:Int):Option Bool:=
 if kind=0 then
  if number=0 then
   some (decide (text=([]:LB)))
  else
   some false
 else
  if kind=1 then
   if number=0 then
    if items=0 then
     bnd (kI text) fun x5=>
     some x5
    else
     some false
   else
    some false
  else
   if kind=2 then
    if number≥(-999999999)then
     if number≤999999999 then
      if text=([]:LB)then
       some (decide (items=0))
      else
       some false
     else
      some false
    else
     some false
   else
    if kind=3 then
     if number=0 then
      if text=([]:LB)then
       some (decide (items=0))
      else
       some false
     else
      if number=1 then
       if text=([]:LB)then
        some (decide (items=0))
       else
        some false
      else
       some false
    else
     if kind=4 then
      if number=0 then
       if items=0 then
        bnd (eD text) fun x5=>
        some x5
       else
        some false
      else
       some false
     else
      some false
def W7 (E9:PD→Int→Int→Option (Bool×Int))(d:PD)(deep:Int)(go8:(Int×Int)→Option (Bool×Int))(x6 bu:Int):Option (Bool×Int):=
 if x6<(d.items.length:Int)then
  bnd (nth d.items x6) fun x9=>
  chk (I64 (deep+1))<|
  bnd (E9 x9 (deep+1) bu) fun x10=>
  if x10.1=true then
   chk (I64 (x6+1))<|
   go8 ((x6+1),x10.2)
  else
   some (false,x10.2)
 else
  some (true,bu)
def oC (E9:PD→Int→Int→Option (Bool×Int))(d:PD)(deep:Int)(go:(Int×Int)→Option (Bool×Int))(v:Int×Int):Option (Bool×Int):=
 match v with
 |(x6,bu)=>W7 E9 d deep go x6 bu
def fY (E9:PD→Int→Int→Option (Bool×Int))(d:PD)(deep bh:Int):Option (Bool×Int):=
 chk (I64 (bh+1))<|
 if deep>20 then
  some (false,(bh+1))
 else
  if(bh+1)>600 then
   some (false,(bh+1))
  else
   bnd (gB d.kind d.number d.text (d.items.length:Int)) fun x5=>
   if x5=true then
    itr (oC E9 d deep) LF (0,(bh+1))
   else
    some (false,(bh+1))
def E9:Nat→PD→Int→Int→Option (Bool×Int)
 |0,_,_,_=>none
 |n+1,d,deep,bh=>fY (E9 n) d deep bh
def kG (d:PD):Option Bool:=
 bnd (E9 RF d 1 0) fun x2=>
 some x2.1
def J5:Option (List (LB)):=
 some ([([43]:LB),([45]:LB),([42]:LB),([61]:LB),([60]:LB),([99,111,110,115]:LB),([99,97,114]:LB),([99,100,114]:LB),([110,117,108,108,63]:LB),([112,97,105,114,63]:LB),([110,117,109,98,101,114,63]:LB),([101,113,63]:LB),([110,111,116]:LB),([100,105,115,112,108,97,121]:LB)]:List (LB))
def P3 (c:PC)(go5:Int→Option Bool)(x4:Int):Option Bool:=
 if x4<(c.kids.length:Int)then
  bnd (nth c.kids x4) fun x6=>
  if x6.kind=8 then
   some false
  else
   chk (I64 (x4+1))<|
   go5 (x4+1)
 else
  some true
def dU (c:PC)(go:Int→Option Bool)(v:Int):Option Bool:=
 match v with
 |x4=>P3 c go x4
def F8 (c:PC)(x3:Bool):Option Bool:=
 if x3=true then
  some false
 else
  if c.kind=1 then
   if(c.params.length:Int)=0 then
    if(c.kids.length:Int)=0 then
     bnd (kG c.datum) fun x4=>
     some x4
    else
     some false
   else
    some false
  else
   if c.kind=2 then
    if(c.params.length:Int)=0 then
     some (decide ((c.kids.length:Int)=0))
    else
     some false
   else
    if c.kind=3 then
     if(c.params.length:Int)=0 then
      if(c.kids.length:Int)=0 then
       if c.number≥0 then
        bnd (J5) fun x4=>
        some (decide (c.number<(x4.length:Int)))
       else
        some false
      else
       some false
     else
      some false
    else
     if c.kind=4 then
      if(c.params.length:Int)=0 then
       some (decide ((c.kids.length:Int)=1))
      else
       some false
     else
      if c.kind=5 then
       if(c.params.length:Int)≤8 then
        some (decide ((c.kids.length:Int)=1))
       else
        some false
      else
       if c.kind=6 then
        if(c.params.length:Int)=0 then
         if(c.kids.length:Int)≥1 then
          some (decide ((c.kids.length:Int)≤9))
         else
          some false
        else
         some false
       else
        if c.kind=7 then
         if(c.params.length:Int)=0 then
          some (decide ((c.kids.length:Int)=3))
         else
          some false
        else
         if c.kind=8 then
          if(c.params.length:Int)=0 then
           if(c.kids.length:Int)<2 then
            some false
           else
            if(c.kids.length:Int)>60 then
             some false
            else
             itr (dU c) LF 0
          else
           some false
         else
          if c.kind=9 then
           if(c.params.length:Int)≥1 then
            if(c.params.length:Int)≤60 then
             if(c.kids.length:Int)≥1 then
              some (decide ((c.kids.length:Int)≤60))
             else
              some false
            else
             some false
           else
            some false
          else
           if c.kind=10 then
            if(c.params.length:Int)=0 then
             some (decide ((c.kids.length:Int)=1))
            else
             some false
           else
            if c.kind=11 then
             if(c.params.length:Int)=1 then
              some (decide ((c.kids.length:Int)=1))
             else
              some false
            else
             some false
def S9 (c:PC)(x2:Bool):Option Bool:=
 if x2=true then
  some false
 else
  if c.number=0 then
   F8 c false
  else
   if c.kind=2 then
    F8 c false
   else
    if c.kind=3 then
     F8 c false
    else
     F8 c (!decide (c.kind=4))
def fV (c:PC):Option Bool:=
 if c.kind=1 then
  S9 c false
 else
  bnd (A6 RF c.datum (PD.mk 0 0 ([]:LB) [])) fun x2=>
  S9 c (!x2)
def O9 (A7:PC→Int→Int→Option (Bool×Int))(c:PC)(deep:Int)(go8:(Int×Int)→Option (Bool×Int))(x6 bu:Int):Option (Bool×Int):=
 if x6<(c.kids.length:Int)then
  bnd (nth c.kids x6) fun x9=>
  chk (I64 (deep+1))<|
  bnd (A7 x9 (deep+1) bu) fun x10=>
  if x10.1=true then
   chk (I64 (x6+1))<|
   go8 ((x6+1),x10.2)
  else
   some (false,x10.2)
 else
  some (true,bu)
def jL (A7:PC→Int→Int→Option (Bool×Int))(c:PC)(deep:Int)(go:(Int×Int)→Option (Bool×Int))(v:Int×Int):Option (Bool×Int):=
 match v with
 |(x6,bu)=>O9 A7 c deep go x6 bu
def cO (A7:PC→Int→Int→Option (Bool×Int))(c:PC)(deep bh:Int):Option (Bool×Int):=
 chk (I64 (bh+1))<|
 if deep>150 then
  some (false,(bh+1))
 else
  if(bh+1)>3000 then
   some (false,(bh+1))
  else
   bnd (fV c) fun x5=>
   if x5=true then
    itr (jL A7 c deep) LF (0,(bh+1))
   else
    some (false,(bh+1))
def A7:Nat→PC→Int→Int→Option (Bool×Int)
 |0,_,_,_=>none
 |n+1,c,deep,bh=>cO (A7 n) c deep bh
def B5 (x2:Int)(go4:(Int×(MI))→Option Bool)(x5:LI)(go8:(Int×(MI))→Option Bool)(x6:Int)(da:MI):Option Bool:=
 if x6<(x5.length:Int)then
  bnd (nth x5 x6) fun x9=>
  if x9<0 then
   some false
  else
   if x9>99999 then
    some false
   else
    if(mget da x9)=1 then
     some false
    else
     chk (I64 (x6+1))<|
     go8 ((x6+1),(mput da x9 1))
 else
  chk (I64 (x2+1))<|
  go4 ((x2+1),da)
def N7 (x2:Int)(go4:(Int×(MI))→Option Bool)(x5:LI)(go:(Int×(MI))→Option Bool)(v:Int×(MI)):Option Bool:=
 match v with
 |(x6,da)=>B5 x2 go4 x5 go x6 da
def G7 (bi:List (LI))(go4:(Int×(MI))→Option Bool)(x2:Int)(seen3:MI):Option Bool:=
 if x2<(bi.length:Int)then
  bnd (nth bi x2) fun x5=>
  itr (N7 x2 go4 x5) LF (0,seen3)
 else
  some true
def N6 (bi:List (LI))(go:(Int×(MI))→Option Bool)(v:Int×(MI)):Option Bool:=
 match v with
 |(x2,seen3)=>G7 bi go x2 seen3
def N4 (bi:List (LI)):Option Bool:=
 itr (N6 bi) LF (0,([]:MI))
def lT (F7:PC→LI→Option (LI))(c:PC)(go6:(Int×LI)→Option (LI))(x4:Int)(aw:LI):Option (LI):=
 if x4<(c.kids.length:Int)then
  bnd (nth c.kids x4) fun x7=>
  bnd (F7 x7 aw) fun x8=>
  chk (I64 (x4+1))<|
  go6 ((x4+1),x8)
 else
  some aw
def nX (F7:PC→LI→Option (LI))(c:PC)(go:(Int×LI)→Option (LI))(v:Int×LI):Option (LI):=
 match v with
 |(x4,aw)=>lT F7 c go x4 aw
def fT (F7:PC→LI→Option (LI))(c:PC)(out:LI):Option (LI):=
 chk ((out.length+c.params.length) * 8≤140737488355328)<|
 itr (nX F7 c) LF (0,(out++c.params))
def F7:Nat→PC→LI→Option (LI)
 |0,_,_=>none
 |n+1,c,out=>fT (F7 n) c out
def X7 (c:PC):Option (LI):=
 bnd (F7 RF c []) fun x2=>
 some x2
def eB (cg:MI)(x9:LI)(go11:Int→Option Bool)(x10:Int):Option Bool:=
 if x10<(x9.length:Int)then
  bnd (nth x9 x10) fun x12=>
  if(mget cg x12)=0 then
   some false
  else
   chk (I64 (x10+1))<|
   go11 (x10+1)
 else
  some true
def lR (cg:MI)(x9:LI)(go:Int→Option Bool)(v:Int):Option Bool:=
 match v with
 |x10=>eB cg x9 go x10
def eA (c:PC)(az:LI)(go8:(Int×(MI))→Option Bool)(x6:Int)(cg:MI):Option Bool:=
 if x6<(az.length:Int)then
  bnd (nth az x6) fun x9=>
  chk (I64 (x6+1))<|
  go8 ((x6+1),(mput cg x9 1))
 else
  bnd (L9 c) fun x9=>
  itr (lR cg x9) LF 0
def lQ (c:PC)(az:LI)(go:(Int×(MI))→Option Bool)(v:Int×(MI)):Option Bool:=
 match v with
 |(x6,cg)=>eA c az go x6 cg
def tR (c:PC)(az:LI):Option Bool:=
 bnd (A7 RF c 1 0) fun x3=>
 if x3.1=true then
  bnd (X7 c) fun x4=>
  bnd (N4 ([az,x4]:List (LI))) fun x5=>
  if x5=true then
   itr (lQ c az) LF (0,([]:MI))
  else
   some false
 else
  some false
end Go.Abs

namespace Go.Abs
set_option linter.unusedVariables false
def bZ (ak:List dz)(an:Int)(ae slots aj:MI)(ah ai ab:Int)(aa:List dy)(x_1:Int):Option (Int×(MI)×Int×Int×Int×List dy×List dz×Int):=
 chk (I64 (ai+1))<|
 some (ai,(mput slots x_1 ai),ah,(ai+1),ab,aa,ak,an)
def C7 (ak:List dz)(an:Int)(ae slots aj:MI)(ah ai ab:Int)(aa:List dy)(op a:Int):Option ((MI)×Int×Int×Int×List dy×List dz×Int):=
 chk ((aa.length+([(dy.mk op a (PD.mk 0 0 ([]:LB) []))]:List dy).length) * 72≤140737488355328)<|
 some (slots,ah,ai,ab,(aa++([(dy.mk op a (PD.mk 0 0 ([]:LB) []))]:List dy)),ak,an)
def cN (v7:PD→Option PD)(D7:List PD→Option (List PD))(d:PD):Option PD:=
 bnd (D7 d.items) fun x4=>
 some (PD.mk d.kind d.number d.text x4)
def S8 (v7:PD→Option PD)(ar:List PD)(go6:(Int×List PD)→Option (List PD))(x4:Int)(aw:List PD):Option (List PD):=
 if x4<(ar.length:Int)then
  bnd (nth ar x4) fun x7=>
  bnd (v7 x7) fun x8=>
  chk ((aw.length+([x8]:List PD).length) * 56≤140737488355328)<|
  chk (I64 (x4+1))<|
  go6 ((x4+1),(aw++([x8]:List PD)))
 else
  some aw
def lU (v7:PD→Option PD)(ar:List PD)(go:(Int×List PD)→Option (List PD))(v:Int×List PD):Option (List PD):=
 match v with
 |(x4,aw)=>S8 v7 ar go x4 aw
def eC (v7:PD→Option PD)(D7:List PD→Option (List PD))(ar:List PD):Option (List PD):=
 itr (lU v7 ar) LF (0,[])
mutual
def v7:Nat→PD→Option PD
 |0,_=>none
 |n+1,d=>cN (v7 n) (D7 n) d
def D7:Nat→List PD→Option (List PD)
 |0,_=>none
 |n+1,ar=>eC (v7 n) (D7 n) ar
end
def R5 (ak:List dz)(an:Int)(ae slots aj:MI)(ah ai ab:Int)(aa:List dy)(x_1 x_2 cu:Int):Option ((MI)×Int×Int×Int×List dy×List dz×Int):=
 if(mhas slots x_1)=true then
  bnd (C7 ak an ae slots aj ah ai ab aa x_2 (mget slots x_1)) fun x13=>
  some (x13.1,x13.2.1,x13.2.2.1,x13.2.2.2.1,x13.2.2.2.2.1,x13.2.2.2.2.2.1,x13.2.2.2.2.2.2)
 else
  bnd (C7 ak an ae slots aj ah ai ab aa cu (mget aj x_1)) fun x13=>
  some (x13.1,x13.2.1,x13.2.2.1,x13.2.2.2.1,x13.2.2.2.2.1,x13.2.2.2.2.2.1,x13.2.2.2.2.2.2)
def jK (ar:LI)(x_1:Int)(go4:Int→Option Bool)(x3:Int):Option Bool:=
 if x3<(ar.length:Int)then
  bnd (nth ar x3) fun x5=>
  if x5=x_1 then
   some true
  else
   chk (I64 (x3+1))<|
   go4 (x3+1)
 else
  some false
def tN (ar:LI)(x_1:Int)(go:Int→Option Bool)(v:Int):Option Bool:=
 match v with
 |x3=>jK ar x_1 go x3
def pX (ar:LI)(x_1:Int):Option Bool:=
 itr (tN ar x_1) LF 0
def K1 (x24:Int)(go32:(Int×Int×List dz×Int×Int×Int×(MI)×List dy)→Option (Int×List dz×Int))(cw:Int)(x34:List dz)(k35 k36 k37:Int)(x38:MI)(x39:List dy):Option (Int×List dz×Int):=
 chk (I64 (x24+1))<|
 go32 ((x24+1),cw,x34,k35,k36,k37,x38,x39)
def C9 (g8:List dz→Int→MI→MI→MI→Int→Int→Int→List dy→PC→Bool→Option ((MI)×Int×Int×Int×List dy×List dz×Int))(ae:MI)(params:LI)(body:PC)(x13:MI)(go32:(Int×Int×List dz×Int×Int×Int×(MI)×List dy)→Option (Int×List dz×Int))(x24 bz:Int)(x26:List dz)(k27 k28 k29:Int)(x30:MI)(x31:List dy):Option (Int×List dz×Int):=
 if x24<(params.length:Int)then
  bnd (nth params x24) fun x33=>
  if(mget ae x33)=1 then
   bnd (C7 x26 bz ae x30 x13 k27 k28 k29 x31 10 x24) fun x34=>
   K1 x24 go32 x34.2.2.2.2.2.2 x34.2.2.2.2.2.1 x34.2.1 x34.2.2.1 x34.2.2.2.1 x34.1 x34.2.2.2.2.1
  else
   K1 x24 go32 bz x26 k27 k28 k29 x30 x31
 else
  bnd (g8 x26 bz ae x30 x13 k27 k28 k29 x31 body true) fun x33=>
  chk ((x33.2.2.2.2.2.1.length+([(dz.mk x33.2.1 x33.2.2.1 x33.2.2.2.1 x33.2.2.2.2.1)]:List dz).length) * 48≤140737488355328)<|
  chk (I64 (((x33.2.2.2.2.2.1++([(dz.mk x33.2.1 x33.2.2.1 x33.2.2.2.1 x33.2.2.2.2.1)]:List dz)).length:Int)-1))<|
  some ((((x33.2.2.2.2.2.1++([(dz.mk x33.2.1 x33.2.2.1 x33.2.2.2.1 x33.2.2.2.2.1)]:List dz)).length:Int)-1),(x33.2.2.2.2.2.1++([(dz.mk x33.2.1 x33.2.2.1 x33.2.2.2.1 x33.2.2.2.2.1)]:List dz)),x33.2.2.2.2.2.2)
def K2 (g8:List dz→Int→MI→MI→MI→Int→Int→Int→List dy→PC→Bool→Option ((MI)×Int×Int×Int×List dy×List dz×Int))(ae:MI)(params:LI)(body:PC)(x13:MI)(go:(Int×Int×List dz×Int×Int×Int×(MI)×List dy)→Option (Int×List dz×Int))(v:Int×Int×List dz×Int×Int×Int×(MI)×List dy):Option (Int×List dz×Int):=
 match v with
 |(x24,bz,x26,k27,k28,k29,x30,x31)=>C9 g8 ae params body x13 go x24 bz x26 k27 k28 k29 x30 x31
def I1 (g8:List dz→Int→MI→MI→MI→Int→Int→Int→List dy→PC→Bool→Option ((MI)×Int×Int×Int×List dy×List dz×Int))(ae:MI)(params:LI)(body:PC)(x13:MI)(go23:(Int×Int×List dz×Int×Int×Int×(MI)×List dy)→Option (Int×List dz×Int))(x15 co:Int)(x17:List dz)(k18 k19 k20:Int)(x21:MI)(x22:List dy):Option (Int×List dz×Int):=
 if x15<(params.length:Int)then
  bnd (nth params x15) fun x24=>
  bnd (bZ x17 co ae x21 x13 k18 k19 k20 x22 x24) fun x25=>
  chk (I64 (x15+1))<|
  go23 ((x15+1),x25.2.2.2.2.2.2.2,x25.2.2.2.2.2.2.1,x25.2.2.1,x25.2.2.2.1,x25.2.2.2.2.1,x25.2.1,x25.2.2.2.2.2.1)
 else
  itr (K2 g8 ae params body x13) LF (0,co,x17,k18,k19,k20,x21,x22)
def dG (g8:List dz→Int→MI→MI→MI→Int→Int→Int→List dy→PC→Bool→Option ((MI)×Int×Int×Int×List dy×List dz×Int))(ae:MI)(params:LI)(body:PC)(x13:MI)(go:(Int×Int×List dz×Int×Int×Int×(MI)×List dy)→Option (Int×List dz×Int))(v:Int×Int×List dz×Int×Int×Int×(MI)×List dy):Option (Int×List dz×Int):=
 match v with
 |(x15,co,x17,k18,k19,k20,x21,x22)=>I1 g8 ae params body x13 go x15 co x17 k18 k19 k20 x21 x22
def I0 (g8:List dz→Int→MI→MI→MI→Int→Int→Int→List dy→PC→Bool→Option ((MI)×Int×Int×Int×List dy×List dz×Int))(codes:List dz)(main:Int)(ae:MI)(params aj:LI)(body:PC)(go14:(Int×(MI))→Option (Int×List dz×Int))(x12:Int)(x13:MI):Option (Int×List dz×Int):=
 if x12<(aj.length:Int)then
  bnd (nth aj x12) fun x15=>
  chk (I64 (x12+1))<|
  go14 ((x12+1),(mput x13 x15 x12))
 else
  itr (dG g8 ae params body x13) LF (0,main,codes,(params.length:Int),0,(aj.length:Int),([]:MI),[])
def dF (g8:List dz→Int→MI→MI→MI→Int→Int→Int→List dy→PC→Bool→Option ((MI)×Int×Int×Int×List dy×List dz×Int))(codes:List dz)(main:Int)(ae:MI)(params aj:LI)(body:PC)(go:(Int×(MI))→Option (Int×List dz×Int))(v:Int×(MI)):Option (Int×List dz×Int):=
 match v with
 |(x12,x13)=>I0 g8 codes main ae params aj body go x12 x13
def X9 (m5:List dz→Int→MI→LI→LI→PC→Option (Int×List dz×Int))(g8:List dz→Int→MI→MI→MI→Int→Int→Int→List dy→PC→Bool→Option ((MI)×Int×Int×Int×List dy×List dz×Int))(o3:List dz→Int→MI→MI→MI→Int→Int→Int→List dy→PC→Bool→Option ((MI)×Int×Int×Int×List dy×List dz×Int))(p0:List dz→Int→MI→MI→MI→Int→Int→Int→List dy→List PC→Bool→Option ((MI)×Int×Int×Int×List dy×List dz×Int))(p8:List dz→Int→MI→MI→MI→Int→Int→Int→List dy→Int→LI→PC→Option ((MI)×Int×Int×Int×List dy×List dz×Int))(codes:List dz)(main:Int)(ae:MI)(params aj:LI)(body:PC):Option (Int×List dz×Int):=
 itr (dF g8 codes main ae params aj body) LF (0,([]:MI))
def w6 (ae aj:MI)(ap:Bool)(k17 k18 k19 x20:Int)(x21:List dz)(x22:MI)(x23:List dy):Option ((MI)×Int×Int×Int×List dy×List dz×Int):=
 if ap=true then
  bnd (C7 x21 x20 ae x22 aj k17 k18 k19 x23 14 0) fun x24=>
  some (x24.1,x24.2.1,x24.2.2.1,x24.2.2.2.1,x24.2.2.2.2.1,x24.2.2.2.2.2.1,x24.2.2.2.2.2.2)
 else
  some (x22,k17,k18,k19,x23,x21,x20)
def B7 (g8:List dz→Int→MI→MI→MI→Int→Int→Int→List dy→PC→Bool→Option ((MI)×Int×Int×Int×List dy×List dz×Int))(ae aj:MI)(c:PC)(ap:Bool)(cx:(Int×Int×Int×Int×Int×List dz×(MI)×List dy)→Option ((MI)×Int×Int×Int×List dy×List dz×Int))(x17 k18 k19 k20 x21:Int)(x22:List dz)(x23:MI)(x24:List dy):Option ((MI)×Int×Int×Int×List dy×List dz×Int):=
 if x17<(c.kids.length:Int)then
  bnd (nth c.kids x17) fun x26=>
  bnd (g8 x22 x21 ae x23 aj k18 k19 k20 x24 x26 false) fun x27=>
  chk (I64 (x17+1))<|
  cx ((x17+1),x27.2.1,x27.2.2.1,x27.2.2.2.1,x27.2.2.2.2.2.2,x27.2.2.2.2.2.1,x27.1,x27.2.2.2.2.1)
 else
  if ap=true then
   chk (I64 ((c.kids.length:Int)-1))<|
   bnd (C7 x22 x21 ae x23 aj k18 k19 k20 x24 13 ((c.kids.length:Int)-1)) fun x26=>
   some (x26.1,x26.2.1,x26.2.2.1,x26.2.2.2.1,x26.2.2.2.2.1,x26.2.2.2.2.2.1,x26.2.2.2.2.2.2)
  else
   chk (I64 ((c.kids.length:Int)-1))<|
   bnd (C7 x22 x21 ae x23 aj k18 k19 k20 x24 12 ((c.kids.length:Int)-1)) fun x26=>
   some (x26.1,x26.2.1,x26.2.2.1,x26.2.2.2.1,x26.2.2.2.2.1,x26.2.2.2.2.2.1,x26.2.2.2.2.2.2)
def R3 (g8:List dz→Int→MI→MI→MI→Int→Int→Int→List dy→PC→Bool→Option ((MI)×Int×Int×Int×List dy×List dz×Int))(ae aj:MI)(c:PC)(ap:Bool)(go:(Int×Int×Int×Int×Int×List dz×(MI)×List dy)→Option ((MI)×Int×Int×Int×List dy×List dz×Int))(v:Int×Int×Int×Int×Int×List dz×(MI)×List dy):Option ((MI)×Int×Int×Int×List dy×List dz×Int):=
 match v with
 |(x17,k18,k19,k20,x21,x22,x23,x24)=>B7 g8 ae aj c ap go x17 k18 k19 k20 x21 x22 x23 x24
def G5 (p0:List dz→Int→MI→MI→MI→Int→Int→Int→List dy→List PC→Bool→Option ((MI)×Int×Int×Int×List dy×List dz×Int))(ae aj:MI)(c:PC)(ap:Bool)(cx:(Int×Int×Int×Int×Int×List dz×(MI)×List dy)→Option ((MI)×Int×Int×Int×List dy×List dz×Int))(x17 k18 k19 k20 x21:Int)(x22:List dz)(x23:MI)(x24:List dy):Option ((MI)×Int×Int×Int×List dy×List dz×Int):=
 if x17<(c.params.length:Int)then
  bnd (nth c.params x17) fun x26=>
  bnd (bZ x22 x21 ae x23 aj k18 k19 k20 x24 x26) fun x27=>
  bnd (C7 x27.2.2.2.2.2.2.1 x27.2.2.2.2.2.2.2 ae x27.2.1 aj x27.2.2.1 x27.2.2.2.1 x27.2.2.2.2.1 x27.2.2.2.2.2.1 9 x27.1) fun x28=>
  chk (I64 (x17+1))<|
  cx ((x17+1),x28.2.1,x28.2.2.1,x28.2.2.2.1,x28.2.2.2.2.2.2,x28.2.2.2.2.2.1,x28.1,x28.2.2.2.2.1)
 else
  bnd (p0 x22 x21 ae x23 aj k18 k19 k20 x24 c.kids ap) fun x26=>
  some (x26.1,x26.2.1,x26.2.2.1,x26.2.2.2.1,x26.2.2.2.2.1,x26.2.2.2.2.2.1,x26.2.2.2.2.2.2)
def R4 (p0:List dz→Int→MI→MI→MI→Int→Int→Int→List dy→List PC→Bool→Option ((MI)×Int×Int×Int×List dy×List dz×Int))(ae aj:MI)(c:PC)(ap:Bool)(go:(Int×Int×Int×Int×Int×List dz×(MI)×List dy)→Option ((MI)×Int×Int×Int×List dy×List dz×Int))(v:Int×Int×Int×Int×Int×List dz×(MI)×List dy):Option ((MI)×Int×Int×Int×List dy×List dz×Int):=
 match v with
 |(x17,k18,k19,k20,x21,x22,x23,x24)=>G5 p0 ae aj c ap go x17 k18 k19 k20 x21 x22 x23 x24
def V4 (m5:List dz→Int→MI→LI→LI→PC→Option (Int×List dz×Int))(g8:List dz→Int→MI→MI→MI→Int→Int→Int→List dy→PC→Bool→Option ((MI)×Int×Int×Int×List dy×List dz×Int))(o3:List dz→Int→MI→MI→MI→Int→Int→Int→List dy→PC→Bool→Option ((MI)×Int×Int×Int×List dy×List dz×Int))(p0:List dz→Int→MI→MI→MI→Int→Int→Int→List dy→List PC→Bool→Option ((MI)×Int×Int×Int×List dy×List dz×Int))(p8:List dz→Int→MI→MI→MI→Int→Int→Int→List dy→Int→LI→PC→Option ((MI)×Int×Int×Int×List dy×List dz×Int))(ak:List dz)(an:Int)(ae slots aj:MI)(ah ai ab:Int)(aa:List dy)(c:PC)(ap:Bool):Option ((MI)×Int×Int×Int×List dy×List dz×Int):=
 if c.kind=6 then
  itr (R3 g8 ae aj c ap) LF (0,ah,ai,ab,an,ak,slots,aa)
 else
  if c.kind=7 then
   bnd (o3 ak an ae slots aj ah ai ab aa c ap) fun x17=>
   some (x17.1,x17.2.1,x17.2.2.1,x17.2.2.2.1,x17.2.2.2.2.1,x17.2.2.2.2.2.1,x17.2.2.2.2.2.2)
  else
   if c.kind=8 then
    bnd (p0 ak an ae slots aj ah ai ab aa c.kids ap) fun x17=>
    some (x17.1,x17.2.1,x17.2.2.1,x17.2.2.2.1,x17.2.2.2.2.1,x17.2.2.2.2.2.1,x17.2.2.2.2.2.2)
   else
    if c.kind=9 then
     itr (R4 p0 ae aj c ap) LF (0,ah,ai,ab,an,ak,slots,aa)
    else
     if c.kind=1 then
      bnd (v7 RF c.datum) fun x17=>
      chk ((aa.length+([(dy.mk 1 0 x17)]:List dy).length) * 72≤140737488355328)<|
      w6 ae aj ap ah ai ab an ak slots (aa++([(dy.mk 1 0 x17)]:List dy))
     else
      if c.kind=3 then
       bnd (C7 ak an ae slots aj ah ai ab aa 2 c.number) fun x17=>
       w6 ae aj ap x17.2.1 x17.2.2.1 x17.2.2.2.1 x17.2.2.2.2.2.2 x17.2.2.2.2.2.1 x17.1 x17.2.2.2.2.1
      else
       if c.kind=2 then
        if(mget ae c.number)=1 then
         bnd (R5 ak an ae slots aj ah ai ab aa c.number 5 6) fun x17=>
         w6 ae aj ap x17.2.1 x17.2.2.1 x17.2.2.2.1 x17.2.2.2.2.2.2 x17.2.2.2.2.2.1 x17.1 x17.2.2.2.2.1
        else
         bnd (R5 ak an ae slots aj ah ai ab aa c.number 3 4) fun x17=>
         w6 ae aj ap x17.2.1 x17.2.2.1 x17.2.2.2.1 x17.2.2.2.2.2.2 x17.2.2.2.2.2.1 x17.1 x17.2.2.2.2.1
       else
        if c.kind=4 then
         bnd (nth c.kids 0) fun x17=>
         bnd (g8 ak an ae slots aj ah ai ab aa x17 false) fun x18=>
         bnd (R5 x18.2.2.2.2.2.1 x18.2.2.2.2.2.2 ae x18.1 aj x18.2.1 x18.2.2.1 x18.2.2.2.1 x18.2.2.2.2.1 c.number 7 8) fun x19=>
         w6 ae aj ap x19.2.1 x19.2.2.1 x19.2.2.2.1 x19.2.2.2.2.2.2 x19.2.2.2.2.2.1 x19.1 x19.2.2.2.2.1
        else
         if c.kind=5 then
          bnd (nth c.kids 0) fun x17=>
          bnd (p8 ak an ae slots aj ah ai ab aa 11 c.params x17) fun x18=>
          w6 ae aj ap x18.2.1 x18.2.2.1 x18.2.2.2.1 x18.2.2.2.2.2.2 x18.2.2.2.2.2.1 x18.1 x18.2.2.2.2.1
         else
          if c.kind=10 then
           bnd (nth c.kids 0) fun x17=>
           bnd (p8 ak an ae slots aj ah ai ab aa 18 [] x17) fun x18=>
           w6 ae aj ap x18.2.1 x18.2.2.1 x18.2.2.2.1 x18.2.2.2.2.2.2 x18.2.2.2.2.2.1 x18.1 x18.2.2.2.2.1
          else
           if c.kind=11 then
            bnd (nth c.kids 0) fun x17=>
            bnd (p8 ak an ae slots aj ah ai ab aa 19 c.params x17) fun x18=>
            w6 ae aj ap x18.2.1 x18.2.2.1 x18.2.2.2.1 x18.2.2.2.2.2.2 x18.2.2.2.2.2.1 x18.1 x18.2.2.2.2.1
           else
            w6 ae aj ap ah ai ab an ak slots aa
def G4 (g8:List dz→Int→MI→MI→MI→Int→Int→Int→List dy→PC→Bool→Option ((MI)×Int×Int×Int×List dy×List dz×Int))(ae aj:MI)(c:PC)(ap:Bool)(x18 x21:(MI)×Int×Int×Int×List dy×List dz×Int)(k22 k23 k24 x25:Int)(x26:List dz)(x27:MI)(x28:List dy):Option ((MI)×Int×Int×Int×List dy×List dz×Int):=
 bnd (nth x28 (x18.2.2.2.2.1.length:Int)) fun x29=>
 bnd (nth c.kids 2) fun x30=>
 bnd (g8 x26 x25 ae x27 aj k22 k23 k24 (x28.set (x18.2.2.2.2.1.length:Int).toNat (dy.mk x29.op (x28.length:Int) x29.d)) x30 ap) fun x31=>
 if ap=true then
  some (x31.1,x31.2.1,x31.2.2.1,x31.2.2.2.1,x31.2.2.2.2.1,x31.2.2.2.2.2.1,x31.2.2.2.2.2.2)
 else
  bnd (nth x31.2.2.2.2.1 (x21.2.2.2.2.1.length:Int)) fun x32=>
  some (x31.1,x31.2.1,x31.2.2.1,x31.2.2.2.1,(x31.2.2.2.2.1.set (x21.2.2.2.2.1.length:Int).toNat (dy.mk x32.op (x31.2.2.2.2.1.length:Int) x32.d)),x31.2.2.2.2.2.1,x31.2.2.2.2.2.2)
def I4 (m5:List dz→Int→MI→LI→LI→PC→Option (Int×List dz×Int))(g8:List dz→Int→MI→MI→MI→Int→Int→Int→List dy→PC→Bool→Option ((MI)×Int×Int×Int×List dy×List dz×Int))(o3:List dz→Int→MI→MI→MI→Int→Int→Int→List dy→PC→Bool→Option ((MI)×Int×Int×Int×List dy×List dz×Int))(p0:List dz→Int→MI→MI→MI→Int→Int→Int→List dy→List PC→Bool→Option ((MI)×Int×Int×Int×List dy×List dz×Int))(p8:List dz→Int→MI→MI→MI→Int→Int→Int→List dy→Int→LI→PC→Option ((MI)×Int×Int×Int×List dy×List dz×Int))(ak:List dz)(an:Int)(ae slots aj:MI)(ah ai ab:Int)(aa:List dy)(c:PC)(ap:Bool):Option ((MI)×Int×Int×Int×List dy×List dz×Int):=
 bnd (nth c.kids 0) fun x17=>
 bnd (g8 ak an ae slots aj ah ai ab aa x17 false) fun x18=>
 bnd (C7 x18.2.2.2.2.2.1 x18.2.2.2.2.2.2 ae x18.1 aj x18.2.1 x18.2.2.1 x18.2.2.2.1 x18.2.2.2.2.1 16 0) fun x19=>
 bnd (nth c.kids 1) fun x20=>
 bnd (g8 x19.2.2.2.2.2.1 x19.2.2.2.2.2.2 ae x19.1 aj x19.2.1 x19.2.2.1 x19.2.2.2.1 x19.2.2.2.2.1 x20 ap) fun x21=>
 if ap=true then
  G4 g8 ae aj c ap x18 x21 x21.2.1 x21.2.2.1 x21.2.2.2.1 x21.2.2.2.2.2.2 x21.2.2.2.2.2.1 x21.1 x21.2.2.2.2.1
 else
  bnd (C7 x21.2.2.2.2.2.1 x21.2.2.2.2.2.2 ae x21.1 aj x21.2.1 x21.2.2.1 x21.2.2.2.1 x21.2.2.2.2.1 15 0) fun x22=>
  G4 g8 ae aj c ap x18 x21 x22.2.1 x22.2.2.1 x22.2.2.2.1 x22.2.2.2.2.2.2 x22.2.2.2.2.2.1 x22.1 x22.2.2.2.2.1
def P5 (x17:Int)(cx:(Int×Int×Int×Int×Int×List dz×(MI)×List dy)→Option ((MI)×Int×Int×Int×List dy×List dz×Int))(k26 k27 k28 x29:Int)(x30:List dz)(x31:MI)(x32:List dy):Option ((MI)×Int×Int×Int×List dy×List dz×Int):=
 chk (I64 (x17+1))<|
 cx ((x17+1),k26,k27,k28,x29,x30,x31,x32)
def P6 (ae aj:MI)(kids:List PC)(x17:Int)(cx:(Int×Int×Int×Int×Int×List dz×(MI)×List dy)→Option ((MI)×Int×Int×Int×List dy×List dz×Int))(k27 k28 k29 x30:Int)(x31:List dz)(x32:MI)(x33:List dy):Option ((MI)×Int×Int×Int×List dy×List dz×Int):=
 if(x17+1)=(kids.length:Int)then
  P5 x17 cx k27 k28 k29 x30 x31 x32 x33
 else
  bnd (C7 x31 x30 ae x32 aj k27 k28 k29 x33 17 0) fun x34=>
  P5 x17 cx x34.2.1 x34.2.2.1 x34.2.2.2.1 x34.2.2.2.2.2.2 x34.2.2.2.2.2.1 x34.1 x34.2.2.2.2.1
def G3 (g8:List dz→Int→MI→MI→MI→Int→Int→Int→List dy→PC→Bool→Option ((MI)×Int×Int×Int×List dy×List dz×Int))(ae aj:MI)(kids:List PC)(ap:Bool)(cx:(Int×Int×Int×Int×Int×List dz×(MI)×List dy)→Option ((MI)×Int×Int×Int×List dy×List dz×Int))(x17 k18 k19 k20 x21:Int)(x22:List dz)(x23:MI)(x24:List dy):Option ((MI)×Int×Int×Int×List dy×List dz×Int):=
 if x17<(kids.length:Int)then
  bnd (nth kids x17) fun x26=>
  chk (I64 (x17+1))<|
  if ap=true then
   bnd (g8 x22 x21 ae x23 aj k18 k19 k20 x24 x26 (decide ((x17+1)=(kids.length:Int)))) fun x27=>
   P6 ae aj kids x17 cx x27.2.1 x27.2.2.1 x27.2.2.2.1 x27.2.2.2.2.2.2 x27.2.2.2.2.2.1 x27.1 x27.2.2.2.2.1
  else
   bnd (g8 x22 x21 ae x23 aj k18 k19 k20 x24 x26 false) fun x27=>
   P6 ae aj kids x17 cx x27.2.1 x27.2.2.1 x27.2.2.2.1 x27.2.2.2.2.2.2 x27.2.2.2.2.2.1 x27.1 x27.2.2.2.2.1
 else
  some (x23,k18,k19,k20,x24,x22,x21)
def fX (g8:List dz→Int→MI→MI→MI→Int→Int→Int→List dy→PC→Bool→Option ((MI)×Int×Int×Int×List dy×List dz×Int))(ae aj:MI)(kids:List PC)(ap:Bool)(go:(Int×Int×Int×Int×Int×List dz×(MI)×List dy)→Option ((MI)×Int×Int×Int×List dy×List dz×Int))(v:Int×Int×Int×Int×Int×List dz×(MI)×List dy):Option ((MI)×Int×Int×Int×List dy×List dz×Int):=
 match v with
 |(x17,k18,k19,k20,x21,x22,x23,x24)=>G3 g8 ae aj kids ap go x17 k18 k19 k20 x21 x22 x23 x24
def bB (m5:List dz→Int→MI→LI→LI→PC→Option (Int×List dz×Int))(g8:List dz→Int→MI→MI→MI→Int→Int→Int→List dy→PC→Bool→Option ((MI)×Int×Int×Int×List dy×List dz×Int))(o3:List dz→Int→MI→MI→MI→Int→Int→Int→List dy→PC→Bool→Option ((MI)×Int×Int×Int×List dy×List dz×Int))(p0:List dz→Int→MI→MI→MI→Int→Int→Int→List dy→List PC→Bool→Option ((MI)×Int×Int×Int×List dy×List dz×Int))(p8:List dz→Int→MI→MI→MI→Int→Int→Int→List dy→Int→LI→PC→Option ((MI)×Int×Int×Int×List dy×List dz×Int))(ak:List dz)(an:Int)(ae slots aj:MI)(ah ai ab:Int)(aa:List dy)(kids:List PC)(ap:Bool):Option ((MI)×Int×Int×Int×List dy×List dz×Int):=
 itr (fX g8 ae aj kids ap) LF (0,ah,ai,ab,an,ak,slots,aa)
def M6 (x19:Int)(go21:(Int×LI)→Option ((MI)×Int×Int×Int×List dy×List dz×Int))(bv:LI):Option ((MI)×Int×Int×Int×List dy×List dz×Int):=
 chk (I64 (x19+1))<|
 go21 ((x19+1),bv)
def K4 (m5:List dz→Int→MI→LI→LI→PC→Option (Int×List dz×Int))(ae aj:MI)(op:Int)(params:LI)(body:PC)(aq:LI)(go30:(Int×Int×Int×Int×Int×List dz×(MI)×List dy)→Option ((MI)×Int×Int×Int×List dy×List dz×Int))(x22 k23 k24 k25 x26:Int)(x27:List dz)(x28:MI)(x29:List dy):Option ((MI)×Int×Int×Int×List dy×List dz×Int):=
 if x22<(aq.length:Int)then
  bnd (nth aq x22) fun x31=>
  bnd (R5 x27 x26 ae x28 aj k23 k24 k25 x29 x31 3 4) fun x32=>
  chk (I64 (x22+1))<|
  go30 ((x22+1),x32.2.1,x32.2.2.1,x32.2.2.2.1,x32.2.2.2.2.2.2,x32.2.2.2.2.2.1,x32.1,x32.2.2.2.2.1)
 else
  bnd (m5 x27 x26 ae params aq body) fun x31=>
  bnd (C7 x31.2.1 x31.2.2 ae x28 aj k23 k24 k25 x29 op x31.1) fun x32=>
  some (x32.1,x32.2.1,x32.2.2.1,x32.2.2.2.1,x32.2.2.2.2.1,x32.2.2.2.2.2.1,x32.2.2.2.2.2.2)
def Q7 (m5:List dz→Int→MI→LI→LI→PC→Option (Int×List dz×Int))(ae aj:MI)(op:Int)(params:LI)(body:PC)(aq:LI)(go:(Int×Int×Int×Int×Int×List dz×(MI)×List dy)→Option ((MI)×Int×Int×Int×List dy×List dz×Int))(v:Int×Int×Int×Int×Int×List dz×(MI)×List dy):Option ((MI)×Int×Int×Int×List dy×List dz×Int):=
 match v with
 |(x22,k23,k24,k25,x26,x27,x28,x29)=>K4 m5 ae aj op params body aq go x22 k23 k24 k25 x26 x27 x28 x29
def D8 (m5:List dz→Int→MI→LI→LI→PC→Option (Int×List dz×Int))(ak:List dz)(an:Int)(ae slots aj:MI)(ah ai ab:Int)(aa:List dy)(op:Int)(params:LI)(body:PC)(x18:LI)(go21:(Int×LI)→Option ((MI)×Int×Int×Int×List dy×List dz×Int))(x19:Int)(aq:LI):Option ((MI)×Int×Int×Int×List dy×List dz×Int):=
 if x19<(x18.length:Int)then
  bnd (nth x18 x19) fun x22=>
  bnd (pX params x22) fun x23=>
  if x23=true then
   M6 x19 go21 aq
  else
   chk ((aq.length+([x22]:LI).length) * 8≤140737488355328)<|
   M6 x19 go21 (aq++([x22]:LI))
 else
  itr (Q7 m5 ae aj op params body aq) LF (0,ah,ai,ab,an,ak,slots,aa)
def eY (m5:List dz→Int→MI→LI→LI→PC→Option (Int×List dz×Int))(ak:List dz)(an:Int)(ae slots aj:MI)(ah ai ab:Int)(aa:List dy)(op:Int)(params:LI)(body:PC)(x18:LI)(go:(Int×LI)→Option ((MI)×Int×Int×Int×List dy×List dz×Int))(v:Int×LI):Option ((MI)×Int×Int×Int×List dy×List dz×Int):=
 match v with
 |(x19,aq)=>D8 m5 ak an ae slots aj ah ai ab aa op params body x18 go x19 aq
def aF (m5:List dz→Int→MI→LI→LI→PC→Option (Int×List dz×Int))(g8:List dz→Int→MI→MI→MI→Int→Int→Int→List dy→PC→Bool→Option ((MI)×Int×Int×Int×List dy×List dz×Int))(o3:List dz→Int→MI→MI→MI→Int→Int→Int→List dy→PC→Bool→Option ((MI)×Int×Int×Int×List dy×List dz×Int))(p0:List dz→Int→MI→MI→MI→Int→Int→Int→List dy→List PC→Bool→Option ((MI)×Int×Int×Int×List dy×List dz×Int))(p8:List dz→Int→MI→MI→MI→Int→Int→Int→List dy→Int→LI→PC→Option ((MI)×Int×Int×Int×List dy×List dz×Int))(ak:List dz)(an:Int)(ae slots aj:MI)(ah ai ab:Int)(aa:List dy)(op:Int)(params:LI)(body:PC):Option ((MI)×Int×Int×Int×List dy×List dz×Int):=
 bnd (L9 body) fun x18=>
 itr (eY m5 ak an ae slots aj ah ai ab aa op params body x18) LF (0,[])
mutual
def m5:Nat→List dz→Int→MI→LI→LI→PC→Option (Int×List dz×Int)
 |0,_,_,_,_,_,_=>none
 |n+1,codes,main,ae,params,aj,body=>X9 (m5 n) (g8 n) (o3 n) (p0 n) (p8 n) codes main ae params aj body
def g8:Nat→List dz→Int→MI→MI→MI→Int→Int→Int→List dy→PC→Bool→Option ((MI)×Int×Int×Int×List dy×List dz×Int)
 |0,_,_,_,_,_,_,_,_,_,_,_=>none
 |n+1,ak,an,ae,slots,aj,ah,ai,ab,aa,c,ap=>V4 (m5 n) (g8 n) (o3 n) (p0 n) (p8 n) ak an ae slots aj ah ai ab aa c ap
def o3:Nat→List dz→Int→MI→MI→MI→Int→Int→Int→List dy→PC→Bool→Option ((MI)×Int×Int×Int×List dy×List dz×Int)
 |0,_,_,_,_,_,_,_,_,_,_,_=>none
 |n+1,ak,an,ae,slots,aj,ah,ai,ab,aa,c,ap=>I4 (m5 n) (g8 n) (o3 n) (p0 n) (p8 n) ak an ae slots aj ah ai ab aa c ap
def p0:Nat→List dz→Int→MI→MI→MI→Int→Int→Int→List dy→List PC→Bool→Option ((MI)×Int×Int×Int×List dy×List dz×Int)
 |0,_,_,_,_,_,_,_,_,_,_,_=>none
 |n+1,ak,an,ae,slots,aj,ah,ai,ab,aa,kids,ap=>bB (m5 n) (g8 n) (o3 n) (p0 n) (p8 n) ak an ae slots aj ah ai ab aa kids ap
def p8:Nat→List dz→Int→MI→MI→MI→Int→Int→Int→List dy→Int→LI→PC→Option ((MI)×Int×Int×Int×List dy×List dz×Int)
 |0,_,_,_,_,_,_,_,_,_,_,_,_=>none
 |n+1,ak,an,ae,slots,aj,ah,ai,ab,aa,op,params,body=>aF (m5 n) (g8 n) (o3 n) (p0 n) (p8 n) ak an ae slots aj ah ai ab aa op params body
end
def bQ (x2:Int)(go4:(Int×(MI))→Option (MI))(x5:LI)(go8:(Int×(MI))→Option (MI))(x6:Int)(cb:MI):Option (MI):=
 if x6<(x5.length:Int)then
  bnd (nth x5 x6) fun x9=>
  chk (I64 (x6+1))<|
  go8 ((x6+1),(mput cb x9 1))
 else
  chk (I64 (x2+1))<|
  go4 ((x2+1),cb)
def vU (x2:Int)(go4:(Int×(MI))→Option (MI))(x5:LI)(go:(Int×(MI))→Option (MI))(v:Int×(MI)):Option (MI):=
 match v with
 |(x6,cb)=>bQ x2 go4 x5 go x6 cb
def bP (bi:List (LI))(go4:(Int×(MI))→Option (MI))(x2:Int)(ce:MI):Option (MI):=
 if x2<(bi.length:Int)then
  bnd (nth bi x2) fun x5=>
  itr (vU x2 go4 x5) LF (0,ce)
 else
  some ce
def vT (bi:List (LI))(go:(Int×(MI))→Option (MI))(v:Int×(MI)):Option (MI):=
 match v with
 |(x2,ce)=>bP bi go x2 ce
def aa1 (bi:List (LI)):Option (MI):=
 itr (vT bi) LF (0,([]:MI))
def W5 (v8:PC→LI→Option (MI)→Option (LI×(Option (MI))))(c:PC)(bb:(Int×LI×(Option (MI)))→Option (LI×(Option (MI))))(x7:Int)(x8:LI)(x9:Option (MI)):Option (LI×(Option (MI))):=
 if x7<(c.kids.length:Int)then
  bnd (nth c.kids x7) fun x11=>
  bnd (v8 x11 x8 x9) fun x12=>
  chk (I64 (x7+1))<|
  bb ((x7+1),x12.1,x12.2)
 else
  some (x8,x9)
def nY (v8:PC→LI→Option (MI)→Option (LI×(Option (MI))))(c:PC)(go:(Int×LI×(Option (MI)))→Option (LI×(Option (MI))))(v:Int×LI×(Option (MI))):Option (LI×(Option (MI))):=
 match v with
 |(x7,x8,x9)=>W5 v8 c go x7 x8 x9
def W0 (v8:PC→LI→Option (MI)→Option (LI×(Option (MI))))(c:PC)(x5:LI)(x6:Option (MI)):Option (LI×(Option (MI))):=
 itr (nY v8 c) LF (0,x5,x6)
def W6 (v8:PC→LI→Option (MI)→Option (LI×(Option (MI))))(c:PC)(go8:(Int×LI×(Option (MI)))→Option (LI×(Option (MI))))(x5:Int)(x6:LI)(x7:Option (MI)):Option (LI×(Option (MI))):=
 if x5<(c.params.length:Int)then
  bnd (nth c.params x5) fun x9=>
  bnd (I5 x6 x7 x9) fun x10=>
  chk (I64 (x5+1))<|
  go8 ((x5+1),x10.1,x10.2)
 else
  W0 v8 c x6 x7
def nZ (v8:PC→LI→Option (MI)→Option (LI×(Option (MI))))(c:PC)(go:(Int×LI×(Option (MI)))→Option (LI×(Option (MI))))(v:Int×LI×(Option (MI))):Option (LI×(Option (MI))):=
 match v with
 |(x5,x6,x7)=>W6 v8 c go x5 x6 x7
def fU (v8:PC→LI→Option (MI)→Option (LI×(Option (MI))))(c:PC)(ar:LI)(bn:Option (MI)):Option (LI×(Option (MI))):=
 if c.kind=4 then
  bnd (I5 ar bn c.number) fun x5=>
  W0 v8 c x5.1 x5.2
 else
  if c.kind=9 then
   itr (nZ v8 c) LF (0,ar,bn)
  else
   W0 v8 c ar bn
def v8:Nat→PC→LI→Option (MI)→Option (LI×(Option (MI)))
 |0,_,_,_=>none
 |n+1,c,ar,bn=>fU (v8 n) c ar bn
def X8 (c:PC):Option (LI):=
 bnd (v8 RF c [] (none:Option (MI))) fun x2=>
 some x2.1
def oA (x_1:dy):Option Bool:=
 if x_1.op<1 then
  some false
 else
  if x_1.op>20 then
   some false
  else
   if x_1.op=1 then
    if x_1.a=0 then
     bnd (kG x_1.d) fun x2=>
     some x2
    else
     some false
   else
    bnd (A6 RF x_1.d (PD.mk 0 0 ([]:LB) [])) fun x2=>
    if x2=true then
     if x_1.a<0 then
      some false
     else
      if x_1.a>4000 then
       some false
      else
       if x_1.a=0 then
        some true
       else
        if x_1.op=14 then
         some false
        else
         some (!decide (x_1.op=17))
    else
     some false
def Y8 (m:ea)(k:Int)(x_1:dy)(x5:Bool):Option Bool:=
 if x5=true then
  if x_1.a<k then
   bnd (nth m.codes x_1.a) fun x6=>
   some (decide (x6.params=0))
  else
   some false
 else
  if x_1.op=19 then
   if x_1.a<k then
    bnd (nth m.codes x_1.a) fun x6=>
    some (decide (x6.params=1))
   else
    some false
  else
   if x_1.op=12 then
    some (decide (x_1.a≤8))
   else
    if x_1.op=13 then
     some (decide (x_1.a≤8))
    else
     some true
def gA (m:ea)(c:dz)(k:Int)(x_1:dy):Option Bool:=
 if x_1.op=2 then
  bnd (J5) fun x5=>
  some (decide (x_1.a<(x5.length:Int)))
 else
  if x_1.op=3 then
   some (decide (x_1.a<c.slots))
  else
   if x_1.op=5 then
    some (decide (x_1.a<c.slots))
   else
    if x_1.op=7 then
     some (decide (x_1.a<c.slots))
    else
     if x_1.op=9 then
      if x_1.a≥c.params then
       some (decide (x_1.a<c.slots))
      else
       some false
     else
      if x_1.op=10 then
       some (decide (x_1.a<c.params))
      else
       if x_1.op=4 then
        some (decide (x_1.a<c.captures))
       else
        if x_1.op=6 then
         some (decide (x_1.a<c.captures))
        else
         if x_1.op=8 then
          some (decide (x_1.a<c.captures))
         else
          if x_1.op=11 then
           some (decide (x_1.a<k))
          else
           if x_1.op=18 then
            Y8 m k x_1 true
           else
            Y8 m k x_1 (decide (x_1.op=20))
def Z9 (m:ea)(k:Int)(x3:dz)(go5:Int→Option Bool)(x4:Int):Option Bool:=
 if x4<(x3.instrs.length:Int)then
  bnd (nth x3.instrs x4) fun x6=>
  bnd (oA x6) fun x7=>
  if x7=true then
   bnd (gA m x3 k x6) fun x8=>
   if x8=true then
    chk (I64 (x4+1))<|
    go5 (x4+1)
   else
    some false
  else
   some false
 else
  some true
def rJ (m:ea)(k:Int)(x3:dz)(go:Int→Option Bool)(v:Int):Option Bool:=
 match v with
 |x4=>Z9 m k x3 go x4
def tS (m:ea)(k:Int):Option Bool:=
 bnd (nth m.codes k) fun x3=>
 if x3.params<0 then
  some false
 else
  if x3.params>8 then
   some false
  else
   if x3.slots<x3.params then
    some false
   else
    if x3.slots>500 then
     some false
    else
     if x3.captures<0 then
      some false
     else
      if x3.captures>500 then
       some false
      else
       if(x3.instrs.length:Int)<1 then
        some false
       else
        if(x3.instrs.length:Int)>4000 then
         some false
        else
         itr (rJ m k x3) LF 0
def tU (m:ea)(x_1:dy):Option (Int×Int):=
 if x_1.op=1 then
  some (0,1)
 else
  if x_1.op=2 then
   some (0,1)
  else
   if x_1.op=3 then
    some (0,1)
   else
    if x_1.op=4 then
     some (0,1)
    else
     if x_1.op=5 then
      some (0,1)
     else
      if x_1.op=6 then
       some (0,1)
      else
       if x_1.op=7 then
        some (1,1)
       else
        if x_1.op=8 then
         some (1,1)
        else
         if x_1.op=11 then
          bnd (nth m.codes x_1.a) fun x3=>
          some (x3.captures,1)
         else
          if x_1.op=18 then
           bnd (nth m.codes x_1.a) fun x3=>
           some (x3.captures,1)
          else
           if x_1.op=19 then
            bnd (nth m.codes x_1.a) fun x3=>
            some (x3.captures,1)
           else
            if x_1.op=20 then
             bnd (nth m.codes x_1.a) fun x3=>
             some (x3.captures,1)
            else
             if x_1.op=12 then
              chk (I64 (x_1.a+1))<|
              some ((x_1.a+1),1)
             else
              if x_1.op=13 then
               chk (I64 (x_1.a+1))<|
               some ((x_1.a+1),0)
              else
               if x_1.op=14 then
                some (1,0)
               else
                if x_1.op=17 then
                 some (1,0)
                else
                 if x_1.op=16 then
                  some (1,0)
                 else
                  some (0,0)
def N5 (x8:Int)(bb:(Int×LI)→Option (LI×Bool))(cj:LI):Option (LI×Bool):=
 chk (I64 (x8+1))<|
 bb ((x8+1),cj)
def R1 (x13:Int×Int)(x15 x17:Int)(ca:LI)(cr:(Int×LI)→Option (LI×Bool))(x20:Int)(x21:Bool):Option (LI×Bool):=
 if x21=true then
  some ([],false)
 else
  bnd (nth ca x20) fun x22=>
  chk (I64 (x17+1))<|
  cr ((x17+1),(ca.set x20.toNat ((x15-x13.1)+x13.2)))
def U0 (x3:dz)(x8:Int)(bb:(Int×LI)→Option (LI×Bool))(x13:Int×Int)(x15:Int)(bo:LI)(cr:(Int×LI)→Option (LI×Bool))(x17:Int)(ca:LI):Option (LI×Bool):=
 if x17<(bo.length:Int)then
  bnd (nth bo x17) fun x20=>
  if x20≤x8 then
   R1 x13 x15 x17 ca cr x20 true
  else
   if x20≥(x3.instrs.length:Int)then
    R1 x13 x15 x17 ca cr x20 true
   else
    bnd (nth ca x20) fun x21=>
    if x21≥0 then
     bnd (nth ca x20) fun x22=>
     R1 x13 x15 x17 ca cr x20 (!decide (x22=((x15-x13.1)+x13.2)))
    else
     R1 x13 x15 x17 ca cr x20 false
 else
  N5 x8 bb ca
def fC (x3:dz)(x8:Int)(bb:(Int×LI)→Option (LI×Bool))(x13:Int×Int)(x15:Int)(bo:LI)(go:(Int×LI)→Option (LI×Bool))(v:Int×LI):Option (LI×Bool):=
 match v with
 |(x17,ca)=>U0 x3 x8 bb x13 x15 bo go x17 ca
def L3 (x3:dz)(x8:Int)(bp:LI)(bb:(Int×LI)→Option (LI×Bool))(x13:Int×Int)(x15:Int)(bo:LI):Option (LI×Bool):=
 itr (fC x3 x8 bb x13 x15 bo) LF (0,bp)
def aW (x3:dz)(x8:Int)(bp:LI)(bb:(Int×LI)→Option (LI×Bool))(x11:dy)(x13:Int×Int)(x15:Int)(x16:Bool):Option (LI×Bool):=
 if x16=true then
  if((x15-x13.1)+x13.2)=0 then
   L3 x3 x8 bp bb x13 x15 []
  else
   some ([],false)
 else
  if x11.op=15 then
   L3 x3 x8 bp bb x13 x15 ([x11.a]:LI)
  else
   if x11.op=16 then
    chk (I64 (x8+1))<|
    L3 x3 x8 bp bb x13 x15 ([(x8+1),x11.a]:LI)
   else
    chk (I64 (x8+1))<|
    L3 x3 x8 bp bb x13 x15 ([(x8+1)]:LI)
def T9 (m:ea)(x3:dz)(bb:(Int×LI)→Option (LI×Bool))(x8:Int)(bp:LI):Option (LI×Bool):=
 if x8<(x3.instrs.length:Int)then
  bnd (nth x3.instrs x8) fun x11=>
  bnd (nth bp x8) fun x12=>
  if x12<0 then
   N5 x8 bb bp
  else
   bnd (tU m x11) fun x13=>
   bnd (nth bp x8) fun x14=>
   if x13.1>x14 then
    some ([],false)
   else
    bnd (nth bp x8) fun x15=>
    chk (I64 (x15-x13.1))<|
    chk (I64 ((x15-x13.1)+x13.2))<|
    if((x15-x13.1)+x13.2)>500 then
     some ([],false)
    else
     if x11.op=14 then
      aW x3 x8 bp bb x11 x13 x15 true
     else
      aW x3 x8 bp bb x11 x13 x15 (decide (x11.op=13))
 else
  some (bp,true)
def fB (m:ea)(x3:dz)(go:(Int×LI)→Option (LI×Bool))(v:Int×LI):Option (LI×Bool):=
 match v with
 |(x8,bp)=>T9 m x3 go x8 bp
def T8 (m:ea)(x3:dz)(go6:(Int×LI)→Option (LI×Bool))(x4:Int)(aw:LI):Option (LI×Bool):=
 if x4<((List.replicate (x3.instrs.length:Int).toNat (0:Int)).length:Int)then
  bnd (nth aw x4) fun x7=>
  chk (I64 (x4+1))<|
  go6 ((x4+1),(aw.set x4.toNat (-1)))
 else
  bnd (nth aw 0) fun x7=>
  itr (fB m x3) LF (0,(aw.set (0:Int).toNat 0))
def lW (m:ea)(x3:dz)(go:(Int×LI)→Option (LI×Bool))(v:Int×LI):Option (LI×Bool):=
 match v with
 |(x4,aw)=>T8 m x3 go x4 aw
def kJ (m:ea)(code:Int):Option (LI×Bool):=
 bnd (nth m.codes code) fun x3=>
 chk (0≤(x3.instrs.length:Int)∧(8:Nat) * (x3.instrs.length:Int)≤281474976710656∧(x3.instrs.length:Int)≤281474976710656)<|
 itr (lW m x3) LF (0,(List.replicate (x3.instrs.length:Int).toNat (0:Int)))
def fZ (op:Int):Option Bool:=
 if op=11 then
  some true
 else
  if op=18 then
   some true
  else
   if op=19 then
    some true
   else
    some (decide (op=20))
def bY (x12:Int)(go14:(Int×LI)→Option Bool)(ct:LI):Option Bool:=
 chk (I64 (x12+1))<|
 go14 ((x12+1),ct)
def W3 (bf x6:Int)(go8:(Int×Int×LI)→Option Bool)(x9:dz)(go14:(Int×LI)→Option Bool)(x12:Int)(bq:LI):Option Bool:=
 if x12<(x9.instrs.length:Int)then
  bnd (nth x9.instrs x12) fun x15=>
  bnd (fZ x15.op) fun x16=>
  if x16=true then
   bnd (nth bq x15.a) fun x17=>
   chk (I64 (x17+1))<|
   bnd (nth bq x15.a) fun x18=>
   bY x12 go14 (bq.set x15.a.toNat (x17+1))
  else
   bY x12 go14 bq
 else
  chk (I64 (x6+1))<|
  go8 ((bf+(x9.instrs.length:Int)),(x6+1),bq)
def iQ (bf x6:Int)(go8:(Int×Int×LI)→Option Bool)(x9:dz)(go:(Int×LI)→Option Bool)(v:Int×LI):Option Bool:=
 match v with
 |(x12,bq)=>W3 bf x6 go8 x9 go x12 bq
def W4 (m:ea)(bf:Int)(br:LI)(bb:Int→Option Bool)(x9:Int):Option Bool:=
 if x9<((br.take ((m.codes.length:Int)-1).toNat).length:Int)then
  bnd (nth (br.take ((m.codes.length:Int)-1).toNat) x9) fun x11=>
  if x11=1 then
   chk (I64 (x9+1))<|
   bb (x9+1)
  else
   some false
 else
  some (decide (bf≤16000))
def iR (m:ea)(bf:Int)(br:LI)(go:Int→Option Bool)(v:Int):Option Bool:=
 match v with
 |x9=>W4 m bf br go x9
def cL (m:ea)(go8:(Int×Int×LI)→Option Bool)(bf x6:Int)(br:LI):Option Bool:=
 if x6<(m.codes.length:Int)then
  bnd (nth m.codes x6) fun x9=>
  bnd (tS m x6) fun x10=>
  if x10=true then
   bnd (kJ m x6) fun x11=>
   if x11.2=true then
    chk (I64 (bf+(x9.instrs.length:Int)))<|
    itr (iQ bf x6 go8 x9) LF (0,br)
   else
    some false
  else
   some false
 else
  chk (I64 ((m.codes.length:Int)-1))<|
  chk (0≤((m.codes.length:Int)-1)∧((m.codes.length:Int)-1)≤br.length)<|
  itr (iR m bf br) LF 0
def nW (m:ea)(go:(Int×Int×LI)→Option Bool)(v:Int×Int×LI):Option Bool:=
 match v with
 |(bf,x6,br)=>cL m go bf x6 br
def nV (m:ea)(captures:Int):Option Bool:=
 if(m.codes.length:Int)<1 then
  some false
 else
  if(m.codes.length:Int)>1500 then
   some false
  else
   chk (I64 ((m.codes.length:Int)-1))<|
   if m.main=((m.codes.length:Int)-1)then
    chk (I64 ((m.codes.length:Int)-1))<|
    bnd (nth m.codes ((m.codes.length:Int)-1)) fun x3=>
    if x3.params=0 then
     chk (I64 ((m.codes.length:Int)-1))<|
     bnd (nth m.codes ((m.codes.length:Int)-1)) fun x4=>
     if x4.captures=captures then
      chk (0≤(m.codes.length:Int)∧(8:Nat) * (m.codes.length:Int)≤281474976710656∧(m.codes.length:Int)≤281474976710656)<|
      itr (nW m) LF (0,0,(List.replicate (m.codes.length:Int).toNat (0:Int)))
     else
      some false
    else
     some false
   else
    some false
def aV (c:PC):Option (ea×Bool):=
 bnd (tR c []) fun x2=>
 if x2=true then
  bnd (X8 c) fun x3=>
  bnd (aa1 ([x3]:List (LI))) fun x4=>
  bnd (m5 RF [] 0 x4 [] [] c) fun x5=>
  bnd (nV (ea.mk x5.2.1 x5.1) 0) fun x6=>
  if x6=true then
   some ((ea.mk x5.2.1 x5.1),true)
  else
   some ((ea.mk [] 0),false)
 else
  some ((ea.mk [] 0),false)
end Go.Abs

namespace Go.Abs
set_option linter.unusedVariables false
def fF (ar:LI):Option (LI):=
 chk ((([]:LI).length+ar.length) * 8≤140737488355328)<|
 some (([]:LI)++ar)
def dP (K9:PC→Int→Option (Bool×Int))(c:PC)(i4 ay:Int)(go6:(Int×Int)→Option (Bool×Int))(x7:Bool):Option (Bool×Int):=
 if x7=true then
  bnd (nth c.kids i4) fun x8=>
  bnd (K9 x8 ay) fun x9=>
  chk (I64 (i4+1))<|
  go6 ((i4+1),x9.2)
 else
  some ((decide (ay≥0)),ay)
def bV (K9:PC→Int→Option (Bool×Int))(c:PC)(go6:(Int×Int)→Option (Bool×Int))(i4 ay:Int):Option (Bool×Int):=
 if i4<(c.kids.length:Int)then
  dP K9 c i4 ay go6 (decide (ay≥0))
 else
  dP K9 c i4 ay go6 false
def wL (K9:PC→Int→Option (Bool×Int))(c:PC)(go:(Int×Int)→Option (Bool×Int))(v:Int×Int):Option (Bool×Int):=
 match v with
 |(i4,ay)=>bV K9 c go i4 ay
def oX (K9:PC→Int→Option (Bool×Int))(c:PC)(ba:Int):Option (Bool×Int):=
 chk (I64 (ba-1))<|
 itr (wL K9 c) LF (0,(ba-1))
def K9:Nat→PC→Int→Option (Bool×Int)
 |0,_,_=>none
 |n+1,c,ba=>oX (K9 n) c ba
def pB (c:PC):Option Bool:=
 bnd (K9 RF c 3000) fun x2=>
 some x2.1
def jP (ar:LI)(x_1:Int)(go4:Int→Option Bool)(x3:Int):Option Bool:=
 if x3<(ar.length:Int)then
  bnd (nth ar x3) fun x5=>
  if x5=x_1 then
   some true
  else
   chk (I64 (x3+1))<|
   go4 (x3+1)
 else
  some false
def uM (ar:LI)(x_1:Int)(go:Int→Option Bool)(v:Int):Option Bool:=
 match v with
 |x3=>jP ar x_1 go x3
def K7 (ar:LI)(x_1:Int):Option Bool:=
 itr (uM ar x_1) LF 0
def eQ (c:PC):Option Bool:=
 if c.kind=2 then
  some true
 else
  some (decide (c.kind=4))
def oY (A5:PC→LI→LI→Option (LI))(c:PC)(x7:LI)(bb:(Int×LI)→Option (LI))(x8:Int)(bp:LI):Option (LI):=
 if x8<(c.kids.length:Int)then
  bnd (nth c.kids x8) fun x11=>
  bnd (A5 x11 (x7++c.params) bp) fun x12=>
  chk (I64 (x8+1))<|
  bb ((x8+1),x12)
 else
  some bp
def sG (A5:PC→LI→LI→Option (LI))(c:PC)(x7:LI)(go:(Int×LI)→Option (LI))(v:Int×LI):Option (LI):=
 match v with
 |(x8,bp)=>oY A5 c x7 go x8 bp
def bW (A5:PC→LI→LI→Option (LI))(c:PC)(au out6:LI):Option (LI):=
 bnd (fF au) fun x7=>
 chk ((x7.length+c.params.length) * 8≤140737488355328)<|
 itr (sG A5 c x7) LF (0,out6)
def aQ (A5:PC→LI→LI→Option (LI))(c:PC)(au out:LI)(x5:Bool):Option (LI):=
 if x5=true then
  chk ((out.length+([c.number]:LI).length) * 8≤140737488355328)<|
  bW A5 c au (out++([c.number]:LI))
 else
  bW A5 c au out
def kV (A5:PC→LI→LI→Option (LI))(c:PC)(au out:LI):Option (LI):=
 bnd (eQ c) fun x5=>
 if x5=true then
  bnd (K7 au c.number) fun x6=>
  if x6=true then
   aQ A5 c au out false
  else
   bnd (K7 out c.number) fun x7=>
   aQ A5 c au out (!x7)
 else
  aQ A5 c au out false
def A5:Nat→PC→LI→LI→Option (LI)
 |0,_,_,_=>none
 |n+1,c,au,out=>kV (A5 n) c au out
def mT (c:PC)(x6:LI)(go9:(Int×LI)→Option (LI))(x7:Int)(out8:LI):Option (LI):=
 if x7<(c.kids.length:Int)then
  bnd (nth c.kids x7) fun x10=>
  bnd (A5 RF x10 (x6++c.params) out8) fun x11=>
  chk (I64 (x7+1))<|
  go9 ((x7+1),x11)
 else
  some out8
def iZ (c:PC)(x6:LI)(go:(Int×LI)→Option (LI))(v:Int×LI):Option (LI):=
 match v with
 |(x7,out8)=>mT c x6 go x7 out8
def R8 (c:PC)(au aw:LI):Option (LI):=
 bnd (fF au) fun x6=>
 chk ((x6.length+c.params.length) * 8≤140737488355328)<|
 itr (iZ c x6) LF (0,aw)
def O7 (c:PC)(au out:LI)(x4:Bool):Option (LI):=
 if x4=true then
  chk ((out.length+([c.number]:LI).length) * 8≤140737488355328)<|
  R8 c au (out++([c.number]:LI))
 else
  R8 c au out
def gU (c:PC)(au out:LI):Option (LI):=
 bnd (eQ c) fun x4=>
 if x4=true then
  bnd (K7 au c.number) fun x5=>
  if x5=true then
   O7 c au out false
  else
   bnd (K7 out c.number) fun x6=>
   O7 c au out (!x6)
 else
  O7 c au out false
def aJ (c:PC):Option (LI):=
 bnd (gU c [] ([]:LI)) fun x2=>
 some x2
def K6 (w5:PC→Option Int)(c:PC)(go5:(Int×Int)→Option Int)(x3 x4:Int):Option Int:=
 if x4<(c.kids.length:Int)then
  bnd (nth c.kids x4) fun x6=>
  bnd (w5 x6) fun x7=>
  chk (I64 (x4+1))<|
  go5 ((max x3 x7),(x4+1))
 else
  chk (I64 (x3+1))<|
  some (x3+1)
def eZ (w5:PC→Option Int)(c:PC)(go:(Int×Int)→Option Int)(v:Int×Int):Option Int:=
 match v with
 |(x3,x4)=>K6 w5 c go x3 x4
def aI (w5:PC→Option Int)(c:PC):Option Int:=
 itr (eZ w5 c) LF (0,0)
def w5:Nat→PC→Option Int
 |0,_=>none
 |n+1,c=>aI (w5 n) c
def aY (x_1 a b:Int):Option Bool:=
 if x_1≥a then
  some (decide (x_1≤b))
 else
  some false
def gJ (A8:PD→PD→Option Bool)(a b:PD)(go5:Int→Option Bool)(x4:Int):Option Bool:=
 if x4<(a.items.length:Int)then
  bnd (nth a.items x4) fun x6=>
  bnd (nth b.items x4) fun x7=>
  bnd (A8 x6 x7) fun x8=>
  if x8=true then
   chk (I64 (x4+1))<|
   go5 (x4+1)
  else
   some false
 else
  some true
def jN (A8:PD→PD→Option Bool)(a b:PD)(go:Int→Option Bool)(v:Int):Option Bool:=
 match v with
 |x4=>gJ A8 a b go x4
def cT (A8:PD→PD→Option Bool)(a b:PD):Option Bool:=
 if a.kind=b.kind then
  if a.number=b.number then
   if a.text=b.text then
    if(a.items.length:Int)=(b.items.length:Int)then
     itr (jN A8 a b) LF 0
    else
     some false
   else
    some false
  else
   some false
 else
  some false
def A8:Nat→PD→PD→Option Bool
 |0,_,_=>none
 |n+1,a,b=>cT (A8 n) a b
def dN (K8:PD→Int→Option (Bool×Int))(d:PD)(i4 ay:Int)(go6:(Int×Int)→Option (Bool×Int))(x7:Bool):Option (Bool×Int):=
 if x7=true then
  bnd (nth d.items i4) fun x8=>
  bnd (K8 x8 ay) fun x9=>
  chk (I64 (i4+1))<|
  go6 ((i4+1),x9.2)
 else
  some ((decide (ay≥0)),ay)
def bU (K8:PD→Int→Option (Bool×Int))(d:PD)(go6:(Int×Int)→Option (Bool×Int))(i4 ay:Int):Option (Bool×Int):=
 if i4<(d.items.length:Int)then
  dN K8 d i4 ay go6 (decide (ay≥0))
 else
  dN K8 d i4 ay go6 false
def wJ (K8:PD→Int→Option (Bool×Int))(d:PD)(go:(Int×Int)→Option (Bool×Int))(v:Int×Int):Option (Bool×Int):=
 match v with
 |(i4,ay)=>bU K8 d go i4 ay
def oU (K8:PD→Int→Option (Bool×Int))(d:PD)(ba:Int):Option (Bool×Int):=
 chk (I64 (ba-1))<|
 itr (wJ K8 d) LF (0,(ba-1))
def K8:Nat→PD→Int→Option (Bool×Int)
 |0,_,_=>none
 |n+1,d,ba=>oU (K8 n) d ba
def W9 (F0:PD→Option Int)(d:PD)(go5:(Int×Int)→Option Int)(x3 x4:Int):Option Int:=
 if x4<(d.items.length:Int)then
  bnd (nth d.items x4) fun x6=>
  bnd (F0 x6) fun x7=>
  chk (I64 (x4+1))<|
  go5 ((max x3 x7),(x4+1))
 else
  chk (I64 (x3+1))<|
  some (x3+1)
def oN (F0:PD→Option Int)(d:PD)(go:(Int×Int)→Option Int)(v:Int×Int):Option Int:=
 match v with
 |(x3,x4)=>W9 F0 d go x3 x4
def gI (F0:PD→Option Int)(d:PD):Option Int:=
 itr (oN F0 d) LF (0,0)
def F0:Nat→PD→Option Int
 |0,_=>none
 |n+1,d=>gI (F0 n) d
def eN (b:Int):Option Bool:=
 if b≥48 then
  some (decide (b≤57))
 else
  some false
def cG (b:Int)(go4:Int→Option Bool)(i3:Int):Option Bool:=
 if i3<(([33,63,42,60,62,61,47,43,45,46,95]:LB).length:Int)then
  bnd (nth ([33,63,42,60,62,61,47,43,45,46,95]:LB) i3) fun x5=>
  if(x5.toNat:Int)=b then
   some true
  else
   chk (I64 (i3+1))<|
   go4 (i3+1)
 else
  some false
def sB (b:Int)(go:Int→Option Bool)(v:Int):Option Bool:=
 match v with
 |i3=>cG b go i3
def aO (b:Int)(x2:Bool):Option Bool:=
 if x2=true then
  some true
 else
  itr (sB b) LF 0
def uP (b:Int):Option Bool:=
 if b≥97 then
  if b≤122 then
   aO b true
  else
   bnd (eN b) fun x2=>
   aO b x2
 else
  bnd (eN b) fun x2=>
  aO b x2
def U5 (s:LB)(go4:Int→Option Bool)(i3:Int):Option Bool:=
 if i3<(s.length:Int)then
  bnd (nth s i3) fun x5=>
  bnd (uP (x5.toNat:Int)) fun x6=>
  if x6=true then
   chk (I64 (i3+1))<|
   go4 (i3+1)
  else
   some false
 else
  some true
def mM (s:LB)(go:Int→Option Bool)(v:Int):Option Bool:=
 match v with
 |i3=>U5 s go i3
def L5 (s:LB)(x2:Bool):Option Bool:=
 if x2=true then
  some false
 else
  itr (mM s) LF 0
def kQ (s:LB):Option Bool:=
 bnd (aY (s.length:Int) 1 16) fun x2=>
 if x2=true then
  bnd (nth s 0) fun x3=>
  bnd (eN (x3.toNat:Int)) fun x4=>
  if x4=true then
   L5 s true
  else
   bnd (nth s 0) fun x5=>
   if(x5.toNat:Int)=45 then
    if(s.length:Int)>1 then
     bnd (nth s 1) fun x6=>
     bnd (eN (x6.toNat:Int)) fun x7=>
     L5 s x7
    else
     L5 s false
   else
    L5 s false
 else
  L5 s true
def U8 (s:LB)(go3:Int→Option Bool)(i2:Int):Option Bool:=
 if i2<(s.length:Int)then
  bnd (nth s i2) fun x4=>
  if(x4.toNat:Int)<32 then
   some false
  else
   bnd (nth s i2) fun x5=>
   if(x5.toNat:Int)>126 then
    some false
   else
    bnd (nth s i2) fun x6=>
    if(x6.toNat:Int)=34 then
     some false
    else
     chk (I64 (i2+1))<|
     go3 (i2+1)
 else
  some (decide ((s.length:Int)≤20))
def uR (s:LB)(go:Int→Option Bool)(v:Int):Option Bool:=
 match v with
 |i2=>U8 s go i2
def kU (s:LB):Option Bool:=
 itr (uR s) LF 0
def uQ (kind number:Int)(text:LB)(items:Int):Option Bool:=
 if kind=0 then
  if number=0 then
   some (decide (text=([]:LB)))
  else
   some false
 else
  if kind=1 then
   if number=0 then
    bnd (kQ text) fun x5=>
    if x5=true then
     some (decide (items=0))
    else
     some false
   else
    some false
  else
   if kind=2 then
    bnd (aY number (-999999999) 999999999) fun x5=>
    if x5=true then
     if text=([]:LB)then
      some (decide (items=0))
     else
      some false
    else
     some false
   else
    if kind=3 then
     bnd (aY number 0 1) fun x5=>
     if x5=true then
      if text=([]:LB)then
       some (decide (items=0))
      else
       some false
     else
      some false
    else
     if kind=4 then
      if number=0 then
       bnd (kU text) fun x5=>
       if x5=true then
        some (decide (items=0))
       else
        some false
      else
       some false
     else
      some false
def X4 (F3:PD→Option Bool)(d:PD)(go4:Int→Option Bool)(x3:Int):Option Bool:=
 if x3<(d.items.length:Int)then
  bnd (nth d.items x3) fun x5=>
  bnd (F3 x5) fun x6=>
  if x6=true then
   chk (I64 (x3+1))<|
   go4 (x3+1)
  else
   some false
 else
  bnd (uQ d.kind d.number d.text (d.items.length:Int)) fun x5=>
  some x5
def oV (F3:PD→Option Bool)(d:PD)(go:Int→Option Bool)(v:Int):Option Bool:=
 match v with
 |x3=>X4 F3 d go x3
def gQ (F3:PD→Option Bool)(d:PD):Option Bool:=
 itr (oV F3 d) LF 0
def F3:Nat→PD→Option Bool
 |0,_=>none
 |n+1,d=>gQ (F3 n) d
def kP (d:PD):Option Bool:=
 bnd (K8 RF d 600) fun x2=>
 if x2.1=true then
  bnd (F0 RF d) fun x3=>
  if x3≤20 then
   bnd (F3 RF d) fun x4=>
   some x4
  else
   some false
 else
  some false
def M9:Option (List (LB)):=
 some ([([43]:LB),([45]:LB),([42]:LB),([61]:LB),([60]:LB),([99,111,110,115]:LB),([99,97,114]:LB),([99,100,114]:LB),([110,117,108,108,63]:LB),([112,97,105,114,63]:LB),([110,117,109,98,101,114,63]:LB),([101,113,63]:LB),([110,111,116]:LB),([100,105,115,112,108,97,121]:LB)]:List (LB))
def J6 (c:PC)(x2:Bool):Option Bool:=
 if x2=true then
  some false
 else
  if c.kind=1 then
   if(c.kids.length:Int)=0 then
    if(c.params.length:Int)=0 then
     bnd (kP c.datum) fun x3=>
     some x3
    else
     some false
   else
    some false
  else
   if c.kind=2 then
    if(c.kids.length:Int)=0 then
     some (decide ((c.params.length:Int)=0))
    else
     some false
   else
    if c.kind=3 then
     if(c.kids.length:Int)=0 then
      if(c.params.length:Int)=0 then
       bnd (M9) fun x3=>
       chk (I64 ((x3.length:Int)-1))<|
       bnd (aY c.number 0 ((x3.length:Int)-1)) fun x4=>
       some x4
      else
       some false
     else
      some false
    else
     if c.kind=4 then
      if(c.kids.length:Int)=1 then
       some (decide ((c.params.length:Int)=0))
      else
       some false
     else
      if c.kind=5 then
       if(c.kids.length:Int)=1 then
        some (decide ((c.params.length:Int)≤8))
       else
        some false
      else
       if c.kind=6 then
        bnd (aY (c.kids.length:Int) 1 9) fun x3=>
        if x3=true then
         some (decide ((c.params.length:Int)=0))
        else
         some false
       else
        if c.kind=7 then
         if(c.kids.length:Int)=3 then
          some (decide ((c.params.length:Int)=0))
         else
          some false
        else
         if c.kind=8 then
          bnd (aY (c.kids.length:Int) 2 60) fun x3=>
          if x3=true then
           some (decide ((c.params.length:Int)=0))
          else
           some false
         else
          if c.kind=9 then
           bnd (aY (c.kids.length:Int) 1 60) fun x3=>
           if x3=true then
            bnd (aY (c.params.length:Int) 1 60) fun x4=>
            some x4
           else
            some false
          else
           if c.kind=10 then
            if(c.kids.length:Int)=1 then
             some (decide ((c.params.length:Int)=0))
            else
             some false
           else
            if c.kind=11 then
             if(c.kids.length:Int)=1 then
              some (decide ((c.params.length:Int)=1))
             else
              some false
            else
             some false
def pA (c:PC):Option Bool:=
 if c.kind=1 then
  if c.number=0 then
   J6 c false
  else
   bnd (eQ c) fun x2=>
   if x2=true then
    J6 c false
   else
    J6 c (!decide (c.kind=3))
 else
  bnd (A8 RF c.datum (PD.mk 0 0 ([]:LB) [])) fun x2=>
  if x2=true then
   if c.number=0 then
    J6 c false
   else
    bnd (eQ c) fun x3=>
    if x3=true then
     J6 c false
    else
     J6 c (!decide (c.kind=3))
  else
   J6 c true
def aR (x3:Int)(go4:Int→Option Bool)(x6:Bool):Option Bool:=
 if x6=true then
  some false
 else
  chk (I64 (x3+1))<|
  go4 (x3+1)
def X6 (F4:PC→Option Bool)(c:PC)(go4:Int→Option Bool)(x3:Int):Option Bool:=
 if x3<(c.kids.length:Int)then
  bnd (nth c.kids x3) fun x5=>
  bnd (F4 x5) fun x6=>
  if x6=true then
   if c.kind=8 then
    aR x3 go4 (decide (x5.kind=8))
   else
    aR x3 go4 false
  else
   aR x3 go4 true
 else
  bnd (pA c) fun x5=>
  some x5
def oZ (F4:PC→Option Bool)(c:PC)(go:Int→Option Bool)(v:Int):Option Bool:=
 match v with
 |x3=>X6 F4 c go x3
def gV (F4:PC→Option Bool)(c:PC):Option Bool:=
 itr (oZ F4 c) LF 0
def F4:Nat→PC→Option Bool
 |0,_=>none
 |n+1,c=>gV (F4 n) c
def U9 (ar:LI)(go3:Int→Option Bool)(x2:Int):Option Bool:=
 if x2<(ar.length:Int)then
  bnd (nth ar x2) fun x4=>
  bnd (aY x4 0 99999) fun x5=>
  if x5=true then
   chk (0≤x2∧x2≤ar.length)<|
   bnd (K7 (ar.take x2.toNat) x4) fun x6=>
   if x6=true then
    some false
   else
    chk (I64 (x2+1))<|
    go3 (x2+1)
  else
   some false
 else
  some true
def mV (ar:LI)(go:Int→Option Bool)(v:Int):Option Bool:=
 match v with
 |x2=>U9 ar go x2
def kW (ar:LI):Option Bool:=
 itr (mV ar) LF 0
def mS (G1:PC→LI→Option (LI))(c:PC)(go6:(Int×LI)→Option (LI))(x4:Int)(aw:LI):Option (LI):=
 if x4<(c.kids.length:Int)then
  bnd (nth c.kids x4) fun x7=>
  bnd (G1 x7 aw) fun x8=>
  chk (I64 (x4+1))<|
  go6 ((x4+1),x8)
 else
  some aw
def oW (G1:PC→LI→Option (LI))(c:PC)(go:(Int×LI)→Option (LI))(v:Int×LI):Option (LI):=
 match v with
 |(x4,aw)=>mS G1 c go x4 aw
def gS (G1:PC→LI→Option (LI))(c:PC)(out:LI):Option (LI):=
 chk ((out.length+c.params.length) * 8≤140737488355328)<|
 itr (oW G1 c) LF (0,(out++c.params))
def G1:Nat→PC→LI→Option (LI)
 |0,_,_=>none
 |n+1,c,out=>gS (G1 n) c out
def eJ (az x9:LI)(go11:Int→Option Bool)(x10:Int):Option Bool:=
 if x10<(x9.length:Int)then
  bnd (nth x9 x10) fun x12=>
  bnd (K7 az x12) fun x13=>
  if x13=true then
   chk (I64 (x10+1))<|
   go11 (x10+1)
  else
   some false
 else
  some true
def mL (az x9:LI)(go:Int→Option Bool)(v:Int):Option Bool:=
 match v with
 |x10=>eJ az x9 go x10
def uN (c:PC)(az:LI):Option Bool:=
 bnd (pB c) fun x3=>
 if x3=true then
  bnd (w5 RF c) fun x4=>
  if x4>150 then
   some false
  else
   bnd (F4 RF c) fun x5=>
   if x5=true then
    bnd (fF az) fun x6=>
    bnd (G1 RF c []) fun x7=>
    chk ((x6.length+x7.length) * 8≤140737488355328)<|
    bnd (kW (x6++x7)) fun x8=>
    if x8=true then
     bnd (aJ c) fun x9=>
     itr (mL az x9) LF 0
    else
     some false
   else
    some false
 else
  some false
def M5 (ah ai ab:Int)(aa:List dy)(slots am ae:LI)(op a:Int):Option (Int×Int×Int×Int×List dy×LI):=
 chk ((aa.length+([(dy.mk op a (PD.mk 0 0 ([]:LB) []))]:List dy).length) * 72≤140737488355328)<|
 chk (I64 (((aa++([(dy.mk op a (PD.mk 0 0 ([]:LB) []))]:List dy)).length:Int)-1))<|
 some ((((aa++([(dy.mk op a (PD.mk 0 0 ([]:LB) []))]:List dy)).length:Int)-1),ah,ai,ab,(aa++([(dy.mk op a (PD.mk 0 0 ([]:LB) []))]:List dy)),slots)
def aN (J9:PD→Option PD)(d:PD)(go5:(Int×List PD)→Option PD)(x3:Int)(x4:List PD):Option PD:=
 if x3<(d.items.length:Int)then
  bnd (nth d.items x3) fun x6=>
  bnd (J9 x6) fun x7=>
  chk ((x4.length+([x7]:List PD).length) * 56≤140737488355328)<|
  chk (I64 (x3+1))<|
  go5 ((x3+1),(x4++([x7]:List PD)))
 else
  some (PD.mk d.kind d.number d.text x4)
def sA (J9:PD→Option PD)(d:PD)(go:(Int×List PD)→Option PD)(v:Int×List PD):Option PD:=
 match v with
 |(x3,x4)=>aN J9 d go x3 x4
def kT (J9:PD→Option PD)(d:PD):Option PD:=
 itr (sA J9 d) LF (0,[])
def J9:Nat→PD→Option PD
 |0,_=>none
 |n+1,d=>kT (J9 n) d
def eP (ar:LI)(x_1:Int)(go4:Int→Option Int)(i3:Int):Option Int:=
 if i3≥0 then
  bnd (nth ar i3) fun x5=>
  if x5=x_1 then
   some i3
  else
   chk (I64 (i3-1))<|
   go4 (i3-1)
 else
  some (-1)
def sJ (ar:LI)(x_1:Int)(go:Int→Option Int)(v:Int):Option Int:=
 match v with
 |i3=>eP ar x_1 go i3
def jA (ar:LI)(x_1:Int):Option Int:=
 chk (I64 ((ar.length:Int)-1))<|
 itr (sJ ar x_1) LF ((ar.length:Int)-1)
def dL (ah ai ab:Int)(aa:List dy)(slots am ae:LI)(x_1 x_2 aj:Int):Option (Int×Int×Int×List dy×LI):=
 bnd (jA slots x_1) fun x11=>
 if x11≥0 then
  bnd (M5 ah ai ab aa slots am ae x_2 x11) fun x12=>
  some (x12.2.1,x12.2.2.1,x12.2.2.2.1,x12.2.2.2.2.1,x12.2.2.2.2.2)
 else
  bnd (jA am x_1) fun x12=>
  bnd (M5 ah ai ab aa slots am ae aj x12) fun x13=>
  some (x13.2.1,x13.2.2.1,x13.2.2.2.1,x13.2.2.2.2.1,x13.2.2.2.2.2)
def uO (ah ai ab:Int)(aa:List dy)(slots am ae:LI)(x_1:Int):Option (Int×Int×Int×List dy×LI):=
 bnd (jA slots x_1) fun x9=>
 if x9≥0 then
  bnd (M5 ah ai ab aa slots am ae 3 x9) fun x10=>
  some (x10.2.1,x10.2.2.1,x10.2.2.2.1,x10.2.2.2.2.1,x10.2.2.2.2.2)
 else
  bnd (jA am x_1) fun x10=>
  bnd (M5 ah ai ab aa slots am ae 4 x10) fun x11=>
  some (x11.2.1,x11.2.2.1,x11.2.2.2.1,x11.2.2.2.2.1,x11.2.2.2.2.2)
def P7 (x11:Int)(go17:(Int×Int×Int×Int×LI×List dy)→Option (Int×List dz))(l18 l19 l20:Int)(x21:LI)(x22:List dy):Option (Int×List dz):=
 chk (I64 (x11+1))<|
 go17 ((x11+1),l18,l19,l20,x21,x22)
def B9 (m7:List dz→Int→Int→Int→List dy→LI→LI→LI→PC→Bool→Option (List dz×Int×Int×Int×List dy×LI))(codes:List dz)(params am ae:LI)(body:PC)(go17:(Int×Int×Int×Int×LI×List dy)→Option (Int×List dz))(x11 l12 l13 l14:Int)(x15:LI)(x16:List dy):Option (Int×List dz):=
 if x11<(params.length:Int)then
  bnd (nth params x11) fun x18=>
  bnd (K7 ae x18) fun x19=>
  if x19=true then
   bnd (M5 l12 l13 l14 x16 x15 am ae 10 x11) fun x20=>
   P7 x11 go17 x20.2.1 x20.2.2.1 x20.2.2.2.1 x20.2.2.2.2.2 x20.2.2.2.2.1
  else
   P7 x11 go17 l12 l13 l14 x15 x16
 else
  bnd (m7 codes l12 l13 l14 x16 x15 am ae body true) fun x18=>
  chk ((x18.1.length+([(dz.mk x18.2.1 (x18.2.2.2.2.2.length:Int) x18.2.2.2.1 x18.2.2.2.2.1)]:List dz).length) * 48≤140737488355328)<|
  chk (I64 (((x18.1++([(dz.mk x18.2.1 (x18.2.2.2.2.2.length:Int) x18.2.2.2.1 x18.2.2.2.2.1)]:List dz)).length:Int)-1))<|
  some ((((x18.1++([(dz.mk x18.2.1 (x18.2.2.2.2.2.length:Int) x18.2.2.2.1 x18.2.2.2.2.1)]:List dz)).length:Int)-1),(x18.1++([(dz.mk x18.2.1 (x18.2.2.2.2.2.length:Int) x18.2.2.2.1 x18.2.2.2.2.1)]:List dz)))
def P8 (m7:List dz→Int→Int→Int→List dy→LI→LI→LI→PC→Bool→Option (List dz×Int×Int×Int×List dy×LI))(codes:List dz)(params am ae:LI)(body:PC)(go:(Int×Int×Int×Int×LI×List dy)→Option (Int×List dz))(v:Int×Int×Int×Int×LI×List dy):Option (Int×List dz):=
 match v with
 |(x11,l12,l13,l14,x15,x16)=>B9 m7 codes params am ae body go x11 l12 l13 l14 x15 x16
def U6 (r9:List dz→LI→LI→LI→PC→Option (Int×List dz))(m7:List dz→Int→Int→Int→List dy→LI→LI→LI→PC→Bool→Option (List dz×Int×Int×Int×List dy×LI))(u9:List dz→Int→Int→Int→List dy→LI→LI→LI→Int→LI→PC→Option (List dz×Int×Int×Int×List dy×LI))(E5:List dz→Int→Int→Int→List dy→LI→LI→LI→PC→Bool→Option (List dz×Int×Int×Int×List dy×LI))(codes:List dz)(params am ae:LI)(body:PC):Option (Int×List dz):=
 bnd (fF params) fun x10=>
 itr (P8 m7 codes params am ae body) LF (0,(params.length:Int),0,(am.length:Int),x10,[])
def D5 (am ae:LI)(ap:Bool)(x15:List dz)(l16 l17 l18:Int)(x19:List dy)(x20:LI):Option (List dz×Int×Int×Int×List dy×LI):=
 if ap=true then
  bnd (M5 l16 l17 l18 x19 x20 am ae 14 0) fun x21=>
  some (x15,x21.2.1,x21.2.2.1,x21.2.2.2.1,x21.2.2.2.2.1,x21.2.2.2.2.2)
 else
  some (x15,l16,l17,l18,x19,x20)
def O1 (m7:List dz→Int→Int→Int→List dy→LI→LI→LI→PC→Bool→Option (List dz×Int×Int×Int×List dy×LI))(am ae:LI)(c:PC)(ap:Bool)(go22:(Int×List dz×Int×Int×Int×List dy×LI)→Option (List dz×Int×Int×Int×List dy×LI))(x15:Int)(x16:List dz)(l17 l18 l19:Int)(x20:List dy)(x21:LI):Option (List dz×Int×Int×Int×List dy×LI):=
 if x15<(c.kids.length:Int)then
  bnd (nth c.kids x15) fun x23=>
  bnd (m7 x16 l17 l18 l19 x20 x21 am ae x23 false) fun x24=>
  chk (I64 (x15+1))<|
  go22 ((x15+1),x24.1,x24.2.1,x24.2.2.1,x24.2.2.2.1,x24.2.2.2.2.1,x24.2.2.2.2.2)
 else
  if ap=true then
   chk (I64 ((c.kids.length:Int)-1))<|
   bnd (M5 l17 l18 l19 x20 x21 am ae 13 ((c.kids.length:Int)-1)) fun x23=>
   some (x16,x23.2.1,x23.2.2.1,x23.2.2.2.1,x23.2.2.2.2.1,x23.2.2.2.2.2)
  else
   chk (I64 ((c.kids.length:Int)-1))<|
   bnd (M5 l17 l18 l19 x20 x21 am ae 12 ((c.kids.length:Int)-1)) fun x23=>
   D5 am ae ap x16 x23.2.1 x23.2.2.1 x23.2.2.2.1 x23.2.2.2.2.1 x23.2.2.2.2.2
def eM (m7:List dz→Int→Int→Int→List dy→LI→LI→LI→PC→Bool→Option (List dz×Int×Int×Int×List dy×LI))(am ae:LI)(c:PC)(ap:Bool)(go:(Int×List dz×Int×Int×Int×List dy×LI)→Option (List dz×Int×Int×Int×List dy×LI))(v:Int×List dz×Int×Int×Int×List dy×LI):Option (List dz×Int×Int×Int×List dy×LI):=
 match v with
 |(x15,x16,l17,l18,l19,x20,x21)=>O1 m7 am ae c ap go x15 x16 l17 l18 l19 x20 x21
def aK (x22:Int)(go29:(Int×List dz×Int×Int×Int×List dy×LI)→Option (List dz×Int×Int×Int×List dy×LI))(x30:List dz)(l31 l32 l33:Int)(x34:List dy)(x35:LI):Option (List dz×Int×Int×Int×List dy×LI):=
 chk (I64 (x22+1))<|
 go29 ((x22+1),x30,l31,l32,l33,x34,x35)
def aL (am ae:LI)(c:PC)(x22:Int)(go29:(Int×List dz×Int×Int×Int×List dy×LI)→Option (List dz×Int×Int×Int×List dy×LI))(x31:List dz)(l32 l33 l34:Int)(x35:List dy)(x36:LI):Option (List dz×Int×Int×Int×List dy×LI):=
 if x22=((c.kids.length:Int)-1)then
  aK x22 go29 x31 l32 l33 l34 x35 x36
 else
  bnd (M5 l32 l33 l34 x35 x36 am ae 17 0) fun x37=>
  aK x22 go29 x31 x37.2.1 x37.2.2.1 x37.2.2.2.1 x37.2.2.2.2.1 x37.2.2.2.2.2
def O3 (m7:List dz→Int→Int→Int→List dy→LI→LI→LI→PC→Bool→Option (List dz×Int×Int×Int×List dy×LI))(am ae:LI)(c:PC)(ap:Bool)(go29:(Int×List dz×Int×Int×Int×List dy×LI)→Option (List dz×Int×Int×Int×List dy×LI))(x22:Int)(x23:List dz)(l24 l25 l26:Int)(x27:List dy)(x28:LI):Option (List dz×Int×Int×Int×List dy×LI):=
 if x22<(c.kids.length:Int)then
  bnd (nth c.kids x22) fun x30=>
  chk (I64 ((c.kids.length:Int)-1))<|
  if x22=((c.kids.length:Int)-1)then
   bnd (m7 x23 l24 l25 l26 x27 x28 am ae x30 ap) fun x31=>
   aL am ae c x22 go29 x31.1 x31.2.1 x31.2.2.1 x31.2.2.2.1 x31.2.2.2.2.1 x31.2.2.2.2.2
  else
   bnd (m7 x23 l24 l25 l26 x27 x28 am ae x30 false) fun x31=>
   aL am ae c x22 go29 x31.1 x31.2.1 x31.2.2.1 x31.2.2.2.1 x31.2.2.2.2.1 x31.2.2.2.2.2
 else
  some (x23,l24,l25,l26,x27,x28)
def iU (m7:List dz→Int→Int→Int→List dy→LI→LI→LI→PC→Bool→Option (List dz×Int×Int×Int×List dy×LI))(am ae:LI)(c:PC)(ap:Bool)(go:(Int×List dz×Int×Int×Int×List dy×LI)→Option (List dz×Int×Int×Int×List dy×LI))(v:Int×List dz×Int×Int×Int×List dy×LI):Option (List dz×Int×Int×Int×List dy×LI):=
 match v with
 |(x22,x23,l24,l25,l26,x27,x28)=>O3 m7 am ae c ap go x22 x23 l24 l25 l26 x27 x28
def O2 (m7:List dz→Int→Int→Int→List dy→LI→LI→LI→PC→Bool→Option (List dz×Int×Int×Int×List dy×LI))(codes:List dz)(am ae:LI)(c:PC)(ap:Bool)(go21:(Int×Int×Int×Int×List dy×LI)→Option (List dz×Int×Int×Int×List dy×LI))(x15 l16 l17 l18:Int)(x19:List dy)(x20:LI):Option (List dz×Int×Int×Int×List dy×LI):=
 if x15<(c.params.length:Int)then
  bnd (nth c.params x15) fun x22=>
  chk ((x20.length+([x22]:LI).length) * 8≤140737488355328)<|
  chk (I64 (((x20++([x22]:LI)).length:Int)-1))<|
  bnd (M5 l16 l17 l18 x19 (x20++([x22]:LI)) am ae 9 (((x20++([x22]:LI)).length:Int)-1)) fun x23=>
  chk (I64 (x15+1))<|
  go21 ((x15+1),x23.2.1,x23.2.2.1,x23.2.2.2.1,x23.2.2.2.2.1,x23.2.2.2.2.2)
 else
  itr (iU m7 am ae c ap) LF (0,codes,l16,l17,l18,x19,x20)
def aM (m7:List dz→Int→Int→Int→List dy→LI→LI→LI→PC→Bool→Option (List dz×Int×Int×Int×List dy×LI))(codes:List dz)(am ae:LI)(c:PC)(ap:Bool)(go:(Int×Int×Int×Int×List dy×LI)→Option (List dz×Int×Int×Int×List dy×LI))(v:Int×Int×Int×Int×List dy×LI):Option (List dz×Int×Int×Int×List dy×LI):=
 match v with
 |(x15,l16,l17,l18,x19,x20)=>O2 m7 codes am ae c ap go x15 l16 l17 l18 x19 x20
def gP (r9:List dz→LI→LI→LI→PC→Option (Int×List dz))(m7:List dz→Int→Int→Int→List dy→LI→LI→LI→PC→Bool→Option (List dz×Int×Int×Int×List dy×LI))(u9:List dz→Int→Int→Int→List dy→LI→LI→LI→Int→LI→PC→Option (List dz×Int×Int×Int×List dy×LI))(E5:List dz→Int→Int→Int→List dy→LI→LI→LI→PC→Bool→Option (List dz×Int×Int×Int×List dy×LI))(codes:List dz)(ah ai ab:Int)(aa:List dy)(slots am ae:LI)(c:PC)(ap:Bool):Option (List dz×Int×Int×Int×List dy×LI):=
 if c.kind=1 then
  bnd (M5 ah ai ab aa slots am ae 1 0) fun x15=>
  chk (I64 ((x15.2.2.2.2.1.length:Int)-1))<|
  bnd (J9 RF c.datum) fun x16=>
  bnd (nth x15.2.2.2.2.1 ((x15.2.2.2.2.1.length:Int)-1)) fun x17=>
  D5 am ae ap codes x15.2.1 x15.2.2.1 x15.2.2.2.1 (x15.2.2.2.2.1.set ((x15.2.2.2.2.1.length:Int)-1).toNat (dy.mk x17.op x17.a x16)) x15.2.2.2.2.2
 else
  if c.kind=3 then
   bnd (M5 ah ai ab aa slots am ae 2 c.number) fun x15=>
   D5 am ae ap codes x15.2.1 x15.2.2.1 x15.2.2.2.1 x15.2.2.2.2.1 x15.2.2.2.2.2
  else
   if c.kind=2 then
    bnd (K7 ae c.number) fun x15=>
    if x15=true then
     bnd (dL ah ai ab aa slots am ae c.number 5 6) fun x16=>
     D5 am ae ap codes x16.1 x16.2.1 x16.2.2.1 x16.2.2.2.1 x16.2.2.2.2
    else
     bnd (uO ah ai ab aa slots am ae c.number) fun x16=>
     D5 am ae ap codes x16.1 x16.2.1 x16.2.2.1 x16.2.2.2.1 x16.2.2.2.2
   else
    if c.kind=4 then
     bnd (nth c.kids 0) fun x15=>
     bnd (m7 codes ah ai ab aa slots am ae x15 false) fun x16=>
     bnd (dL x16.2.1 x16.2.2.1 x16.2.2.2.1 x16.2.2.2.2.1 x16.2.2.2.2.2 am ae c.number 7 8) fun x17=>
     D5 am ae ap x16.1 x17.1 x17.2.1 x17.2.2.1 x17.2.2.2.1 x17.2.2.2.2
    else
     if c.kind=5 then
      bnd (nth c.kids 0) fun x15=>
      bnd (u9 codes ah ai ab aa slots am ae 11 c.params x15) fun x16=>
      D5 am ae ap x16.1 x16.2.1 x16.2.2.1 x16.2.2.2.1 x16.2.2.2.2.1 x16.2.2.2.2.2
     else
      if c.kind=10 then
       bnd (nth c.kids 0) fun x15=>
       bnd (u9 codes ah ai ab aa slots am ae 18 [] x15) fun x16=>
       D5 am ae ap x16.1 x16.2.1 x16.2.2.1 x16.2.2.2.1 x16.2.2.2.2.1 x16.2.2.2.2.2
      else
       if c.kind=11 then
        bnd (nth c.kids 0) fun x15=>
        bnd (u9 codes ah ai ab aa slots am ae 19 c.params x15) fun x16=>
        D5 am ae ap x16.1 x16.2.1 x16.2.2.1 x16.2.2.2.1 x16.2.2.2.2.1 x16.2.2.2.2.2
       else
        if c.kind=6 then
         itr (eM m7 am ae c ap) LF (0,codes,ah,ai,ab,aa,slots)
        else
         if c.kind=7 then
          bnd (nth c.kids 0) fun x15=>
          bnd (m7 codes ah ai ab aa slots am ae x15 false) fun x16=>
          bnd (E5 x16.1 x16.2.1 x16.2.2.1 x16.2.2.2.1 x16.2.2.2.2.1 x16.2.2.2.2.2 am ae c ap) fun x17=>
          some (x17.1,x17.2.1,x17.2.2.1,x17.2.2.2.1,x17.2.2.2.2.1,x17.2.2.2.2.2)
         else
          itr (aM m7 codes am ae c ap) LF (0,ah,ai,ab,aa,slots)
def U7 (r9:List dz→LI→LI→LI→PC→Option (Int×List dz))(codes:List dz)(am ae:LI)(op:Int)(params:LI)(body:PC)(x16:LI)(go23:(Int×Int×Int×Int×List dy×LI)→Option (List dz×Int×Int×Int×List dy×LI))(x17 l18 l19 l20:Int)(x21:List dy)(x22:LI):Option (List dz×Int×Int×Int×List dy×LI):=
 if x17<(x16.length:Int)then
  bnd (nth x16 x17) fun x24=>
  bnd (uO l18 l19 l20 x21 x22 am ae x24) fun x25=>
  chk (I64 (x17+1))<|
  go23 ((x17+1),x25.1,x25.2.1,x25.2.2.1,x25.2.2.2.1,x25.2.2.2.2)
 else
  bnd (r9 codes params x16 ae body) fun x24=>
  bnd (M5 l18 l19 l20 x21 x22 am ae op x24.1) fun x25=>
  some (x24.2,x25.2.1,x25.2.2.1,x25.2.2.2.1,x25.2.2.2.2.1,x25.2.2.2.2.2)
def cW (r9:List dz→LI→LI→LI→PC→Option (Int×List dz))(codes:List dz)(am ae:LI)(op:Int)(params:LI)(body:PC)(x16:LI)(go:(Int×Int×Int×Int×List dy×LI)→Option (List dz×Int×Int×Int×List dy×LI))(v:Int×Int×Int×Int×List dy×LI):Option (List dz×Int×Int×Int×List dy×LI):=
 match v with
 |(x17,l18,l19,l20,x21,x22)=>U7 r9 codes am ae op params body x16 go x17 l18 l19 l20 x21 x22
def eK (r9:List dz→LI→LI→LI→PC→Option (Int×List dz))(m7:List dz→Int→Int→Int→List dy→LI→LI→LI→PC→Bool→Option (List dz×Int×Int×Int×List dy×LI))(u9:List dz→Int→Int→Int→List dy→LI→LI→LI→Int→LI→PC→Option (List dz×Int×Int×Int×List dy×LI))(E5:List dz→Int→Int→Int→List dy→LI→LI→LI→PC→Bool→Option (List dz×Int×Int×Int×List dy×LI))(codes:List dz)(ah ai ab:Int)(aa:List dy)(slots am ae:LI)(op:Int)(params:LI)(body:PC):Option (List dz×Int×Int×Int×List dy×LI):=
 bnd (gU body params ([]:LI)) fun x16=>
 itr (cW r9 codes am ae op params body x16) LF (0,ah,ai,ab,aa,slots)
def dM (m7:List dz→Int→Int→Int→List dy→LI→LI→LI→PC→Bool→Option (List dz×Int×Int×Int×List dy×LI))(am ae:LI)(c:PC)(ap:Bool)(x15:Int×Int×Int×Int×List dy×LI)(x17:List dz×Int×Int×Int×List dy×LI)(cy l19 l20 l21:Int)(x22:List dy)(x23:LI):Option (List dz×Int×Int×Int×List dy×LI):=
 bnd (nth x22 x15.1) fun x24=>
 bnd (nth c.kids 2) fun x25=>
 bnd (m7 x17.1 l19 l20 l21 (x22.set x15.1.toNat (dy.mk x24.op (x22.length:Int) x24.d)) x23 am ae x25 ap) fun x26=>
 if ap=true then
  some (x26.1,x26.2.1,x26.2.2.1,x26.2.2.2.1,x26.2.2.2.2.1,x26.2.2.2.2.2)
 else
  bnd (nth x26.2.2.2.2.1 cy) fun x27=>
  some (x26.1,x26.2.1,x26.2.2.1,x26.2.2.2.1,(x26.2.2.2.2.1.set cy.toNat (dy.mk x27.op (x26.2.2.2.2.1.length:Int) x27.d)),x26.2.2.2.2.2)
def gN (r9:List dz→LI→LI→LI→PC→Option (Int×List dz))(m7:List dz→Int→Int→Int→List dy→LI→LI→LI→PC→Bool→Option (List dz×Int×Int×Int×List dy×LI))(u9:List dz→Int→Int→Int→List dy→LI→LI→LI→Int→LI→PC→Option (List dz×Int×Int×Int×List dy×LI))(E5:List dz→Int→Int→Int→List dy→LI→LI→LI→PC→Bool→Option (List dz×Int×Int×Int×List dy×LI))(codes:List dz)(ah ai ab:Int)(aa:List dy)(slots am ae:LI)(c:PC)(ap:Bool):Option (List dz×Int×Int×Int×List dy×LI):=
 bnd (M5 ah ai ab aa slots am ae 16 0) fun x15=>
 bnd (nth c.kids 1) fun x16=>
 bnd (m7 codes x15.2.1 x15.2.2.1 x15.2.2.2.1 x15.2.2.2.2.1 x15.2.2.2.2.2 am ae x16 ap) fun x17=>
 if ap=true then
  dM m7 am ae c ap x15 x17 (-1) x17.2.1 x17.2.2.1 x17.2.2.2.1 x17.2.2.2.2.1 x17.2.2.2.2.2
 else
  bnd (M5 x17.2.1 x17.2.2.1 x17.2.2.2.1 x17.2.2.2.2.1 x17.2.2.2.2.2 am ae 15 0) fun x18=>
  dM m7 am ae c ap x15 x17 x18.1 x18.2.1 x18.2.2.1 x18.2.2.2.1 x18.2.2.2.2.1 x18.2.2.2.2.2
mutual
def r9:Nat→List dz→LI→LI→LI→PC→Option (Int×List dz)
 |0,_,_,_,_,_=>none
 |n+1,codes,params,am,ae,body=>U6 (r9 n) (m7 n) (u9 n) (E5 n) codes params am ae body
def m7:Nat→List dz→Int→Int→Int→List dy→LI→LI→LI→PC→Bool→Option (List dz×Int×Int×Int×List dy×LI)
 |0,_,_,_,_,_,_,_,_,_,_=>none
 |n+1,codes,ah,ai,ab,aa,slots,am,ae,c,ap=>gP (r9 n) (m7 n) (u9 n) (E5 n) codes ah ai ab aa slots am ae c ap
def u9:Nat→List dz→Int→Int→Int→List dy→LI→LI→LI→Int→LI→PC→Option (List dz×Int×Int×Int×List dy×LI)
 |0,_,_,_,_,_,_,_,_,_,_,_=>none
 |n+1,codes,ah,ai,ab,aa,slots,am,ae,op,params,body=>eK (r9 n) (m7 n) (u9 n) (E5 n) codes ah ai ab aa slots am ae op params body
def E5:Nat→List dz→Int→Int→Int→List dy→LI→LI→LI→PC→Bool→Option (List dz×Int×Int×Int×List dy×LI)
 |0,_,_,_,_,_,_,_,_,_,_=>none
 |n+1,codes,ah,ai,ab,aa,slots,am,ae,c,ap=>gN (r9 n) (m7 n) (u9 n) (E5 n) codes ah ai ab aa slots am ae c ap
end
def cJ (i6:Int)(go8:(Int×LI)→Option (LI))(dd:LI):Option (LI):=
 chk (I64 (i6+1))<|
 go8 ((i6+1),dd)
def X5 (t9:PC→LI→Option (LI))(c:PC)(go12:(Int×LI)→Option (LI))(x10:Int)(cj:LI):Option (LI):=
 if x10<(c.kids.length:Int)then
  bnd (nth c.kids x10) fun x13=>
  bnd (t9 x13 cj) fun x14=>
  chk (I64 (x10+1))<|
  go12 ((x10+1),x14)
 else
  some cj
def iY (t9:PC→LI→Option (LI))(c:PC)(go:(Int×LI)→Option (LI))(v:Int×LI):Option (LI):=
 match v with
 |(x10,cj)=>X5 t9 c go x10 cj
def W1 (t9:PC→LI→Option (LI))(c:PC)(i6:Int)(cb:LI)(go8:(Int×LI)→Option (LI))(x9:Bool):Option (LI):=
 if x9=true then
  bnd (nth c.params i6) fun x10=>
  bnd (K7 cb x10) fun x11=>
  if x11=true then
   cJ i6 go8 cb
  else
   bnd (nth c.params i6) fun x12=>
   chk ((cb.length+([x12]:LI).length) * 8≤140737488355328)<|
   cJ i6 go8 (cb++([x12]:LI))
 else
  itr (iY t9 c) LF (0,cb)
def O4 (t9:PC→LI→Option (LI))(c:PC)(go8:(Int×LI)→Option (LI))(i6:Int)(cb:LI):Option (LI):=
 if i6<(c.params.length:Int)then
  W1 t9 c i6 cb go8 (decide (c.kind=9))
 else
  W1 t9 c i6 cb go8 false
def eO (t9:PC→LI→Option (LI))(c:PC)(go:(Int×LI)→Option (LI))(v:Int×LI):Option (LI):=
 match v with
 |(i6,cb)=>O4 t9 c go i6 cb
def aP (t9:PC→LI→Option (LI))(c:PC)(aw:LI):Option (LI):=
 itr (eO t9 c) LF (0,aw)
def cI (t9:PC→LI→Option (LI))(c:PC)(out:LI)(x4:Bool):Option (LI):=
 if x4=true then
  chk ((out.length+([c.number]:LI).length) * 8≤140737488355328)<|
  aP t9 c (out++([c.number]:LI))
 else
  aP t9 c out
def gT (t9:PC→LI→Option (LI))(c:PC)(out:LI):Option (LI):=
 if c.kind=4 then
  bnd (K7 out c.number) fun x4=>
  cI t9 c out (!x4)
 else
  cI t9 c out false
def t9:Nat→PC→LI→Option (LI)
 |0,_,_=>none
 |n+1,c,out=>gT (t9 n) c out
def Y3 (c:PC):Option (LI):=
 bnd (t9 RF c ([]:LI)) fun x2=>
 some x2
def qJ (op:Int):Option Bool:=
 if op=14 then
  some true
 else
  some (decide (op=17))
def kS (x_1:dy):Option Bool:=
 bnd (aY x_1.op 1 20) fun x2=>
 if x2=true then
  if x_1.op=1 then
   if x_1.a=0 then
    bnd (kP x_1.d) fun x3=>
    some x3
   else
    some false
  else
   bnd (A8 RF x_1.d (PD.mk 0 0 ([]:LB) [])) fun x3=>
   if x3=true then
    bnd (aY x_1.a 0 4000) fun x4=>
    if x4=true then
     if x_1.a=0 then
      some true
     else
      bnd (qJ x_1.op) fun x5=>
      some (!x5)
    else
     some false
   else
    some false
 else
  some false
def cC (m:ea)(x_1:Int)(x_2:dy)(x5:Bool):Option Bool:=
 if x5=true then
  if x_2.a<x_1 then
   bnd (nth m.codes x_2.a) fun x6=>
   some (decide (x6.params=0))
  else
   some false
 else
  if x_2.op=19 then
   if x_2.a<x_1 then
    bnd (nth m.codes x_2.a) fun x6=>
    some (decide (x6.params=1))
   else
    some false
  else
   if x_2.op=12 then
    some (decide (x_2.a≤8))
   else
    if x_2.op=13 then
     some (decide (x_2.a≤8))
    else
     some true
def oR (m:ea)(x_1:Int)(x_2:dy):Option Bool:=
 bnd (nth m.codes x_1) fun x4=>
 if x_2.op=2 then
  bnd (M9) fun x5=>
  some (decide (x_2.a<(x5.length:Int)))
 else
  if x_2.op=3 then
   some (decide (x_2.a<x4.slots))
  else
   if x_2.op=5 then
    some (decide (x_2.a<x4.slots))
   else
    if x_2.op=7 then
     some (decide (x_2.a<x4.slots))
    else
     if x_2.op=9 then
      chk (I64 (x4.slots-1))<|
      bnd (aY x_2.a x4.params (x4.slots-1)) fun x5=>
      some x5
     else
      if x_2.op=10 then
       some (decide (x_2.a<x4.params))
      else
       if x_2.op=4 then
        some (decide (x_2.a<x4.captures))
       else
        if x_2.op=6 then
         some (decide (x_2.a<x4.captures))
        else
         if x_2.op=8 then
          some (decide (x_2.a<x4.captures))
         else
          if x_2.op=11 then
           if x_2.a<x_1 then
            bnd (nth m.codes x_2.a) fun x5=>
            some (decide (x5.params≤8))
           else
            some false
          else
           if x_2.op=18 then
            cC m x_1 x_2 true
           else
            cC m x_1 x_2 (decide (x_2.op=20))
def X0 (m:ea)(x_1:Int)(x3:dz)(go9:Int→Option Bool)(x8:Int):Option Bool:=
 if x8<(x3.instrs.length:Int)then
  bnd (nth x3.instrs x8) fun x10=>
  bnd (kS x10) fun x11=>
  if x11=true then
   bnd (oR m x_1 x10) fun x12=>
   if x12=true then
    chk (I64 (x8+1))<|
    go9 (x8+1)
   else
    some false
  else
   some false
 else
  some true
def xD (m:ea)(x_1:Int)(x3:dz)(go:Int→Option Bool)(v:Int):Option Bool:=
 match v with
 |x8=>X0 m x_1 x3 go x8
def oQ (m:ea)(x_1:Int):Option Bool:=
 bnd (nth m.codes x_1) fun x3=>
 bnd (aY x3.params 0 8) fun x4=>
 if x4=true then
  bnd (aY x3.slots x3.params 500) fun x5=>
  if x5=true then
   bnd (aY x3.captures 0 500) fun x6=>
   if x6=true then
    bnd (aY (x3.instrs.length:Int) 1 4000) fun x7=>
    if x7=true then
     itr (xD m x_1 x3) LF 0
    else
     some false
   else
    some false
  else
   some false
 else
  some false
def gM (m:ea)(x_1:dy):Option (Int×Int):=
 if x_1.op=1 then
  some (0,1)
 else
  if x_1.op=2 then
   some (0,1)
  else
   if x_1.op=3 then
    some (0,1)
   else
    if x_1.op=4 then
     some (0,1)
    else
     if x_1.op=5 then
      some (0,1)
     else
      if x_1.op=6 then
       some (0,1)
      else
       if x_1.op=7 then
        some (1,1)
       else
        if x_1.op=8 then
         some (1,1)
        else
         if x_1.op=11 then
          bnd (nth m.codes x_1.a) fun x3=>
          some (x3.captures,1)
         else
          if x_1.op=18 then
           bnd (nth m.codes x_1.a) fun x3=>
           some (x3.captures,1)
          else
           if x_1.op=19 then
            bnd (nth m.codes x_1.a) fun x3=>
            some (x3.captures,1)
           else
            if x_1.op=20 then
             bnd (nth m.codes x_1.a) fun x3=>
             some (x3.captures,1)
            else
             if x_1.op=12 then
              chk (I64 (x_1.a+1))<|
              some ((x_1.a+1),1)
             else
              if x_1.op=13 then
               chk (I64 (x_1.a+1))<|
               some ((x_1.a+1),0)
              else
               if x_1.op=14 then
                some (1,0)
               else
                if x_1.op=17 then
                 some (1,0)
                else
                 if x_1.op=16 then
                  some (1,0)
                 else
                  some (0,0)
def L6 (x8:Int)(bb:(Int×LI)→Option (LI×Bool))(cq:LI):Option (LI×Bool):=
 chk (I64 (x8+1))<|
 bb ((x8+1),cq)
def O6 (x13:Int×Int)(x14 x17:Int)(bc:LI)(cr:(Int×LI)→Option (LI×Bool))(x20:Int)(x21:Bool):Option (LI×Bool):=
 if x21=true then
  some ([],false)
 else
  chk (I64 ((x14-x13.1)+x13.2))<|
  bnd (nth bc x20) fun x22=>
  chk (I64 (x17+1))<|
  cr ((x17+1),(bc.set x20.toNat ((x14-x13.1)+x13.2)))
def Q1 (x3:dz)(x8:Int)(bb:(Int×LI)→Option (LI×Bool))(x13:Int×Int)(x14:Int)(x16:LI)(cr:(Int×LI)→Option (LI×Bool))(x17:Int)(bc:LI):Option (LI×Bool):=
 if x17<(x16.length:Int)then
  bnd (nth x16 x17) fun x20=>
  if x20≤x8 then
   O6 x13 x14 x17 bc cr x20 true
  else
   if x20≥(x3.instrs.length:Int)then
    O6 x13 x14 x17 bc cr x20 true
   else
    bnd (nth bc x20) fun x21=>
    if x21≥0 then
     bnd (nth bc x20) fun x22=>
     chk (I64 ((x14-x13.1)+x13.2))<|
     O6 x13 x14 x17 bc cr x20 (!decide (x22=((x14-x13.1)+x13.2)))
    else
     O6 x13 x14 x17 bc cr x20 false
 else
  L6 x8 bb bc
def dW (x3:dz)(x8:Int)(bb:(Int×LI)→Option (LI×Bool))(x13:Int×Int)(x14:Int)(x16:LI)(go:(Int×LI)→Option (LI×Bool))(v:Int×LI):Option (LI×Bool):=
 match v with
 |(x17,bc)=>Q1 x3 x8 bb x13 x14 x16 go x17 bc
def G0 (x3:dz)(x8:Int)(av:LI)(bb:(Int×LI)→Option (LI×Bool))(x13:Int×Int)(x14:Int)(x16:LI):Option (LI×Bool):=
 itr (dW x3 x8 bb x13 x14 x16) LF (0,av)
def Z0 (x3:dz)(x8:Int)(av:LI)(bb:(Int×LI)→Option (LI×Bool))(x11:dy)(x13:Int×Int)(x14:Int)(x16:Bool):Option (LI×Bool):=
 if x16=true then
  G0 x3 x8 av bb x13 x14 []
 else
  if x11.op=15 then
   G0 x3 x8 av bb x13 x14 ([x11.a]:LI)
  else
   if x11.op=16 then
    chk ((([(x8+1)]:LI).length+([x11.a]:LI).length) * 8≤140737488355328)<|
    G0 x3 x8 av bb x13 x14 (([(x8+1)]:LI)++([x11.a]:LI))
   else
    G0 x3 x8 av bb x13 x14 ([(x8+1)]:LI)
def C6 (x3:dz)(x8:Int)(av:LI)(bb:(Int×LI)→Option (LI×Bool))(x11:dy)(x13:Int×Int)(x14:Int)(x15:Bool):Option (LI×Bool):=
 if x15=true then
  some ([],false)
 else
  chk (I64 (x8+1))<|
  if x11.op=14 then
   Z0 x3 x8 av bb x11 x13 x14 true
  else
   Z0 x3 x8 av bb x11 x13 x14 (decide (x11.op=13))
def Q0 (m:ea)(x3:dz)(bb:(Int×LI)→Option (LI×Bool))(x8:Int)(av:LI):Option (LI×Bool):=
 if x8<(x3.instrs.length:Int)then
  bnd (nth x3.instrs x8) fun x11=>
  bnd (nth av x8) fun x12=>
  if x12<0 then
   L6 x8 bb av
  else
   bnd (gM m x11) fun x13=>
   bnd (nth av x8) fun x14=>
   chk (I64 (x14-x13.1))<|
   if(x14-x13.1)<0 then
    C6 x3 x8 av bb x11 x13 x14 true
   else
    chk (I64 ((x14-x13.1)+x13.2))<|
    if((x14-x13.1)+x13.2)>500 then
     C6 x3 x8 av bb x11 x13 x14 true
    else
     if x11.op=14 then
      if(x14-x13.1)=0 then
       if x11.op=13 then
        C6 x3 x8 av bb x11 x13 x14 (!decide ((x14-x13.1)=0))
       else
        C6 x3 x8 av bb x11 x13 x14 false
      else
       C6 x3 x8 av bb x11 x13 x14 true
     else
      if x11.op=13 then
       C6 x3 x8 av bb x11 x13 x14 (!decide ((x14-x13.1)=0))
      else
       C6 x3 x8 av bb x11 x13 x14 false
 else
  some (av,true)
def dV (m:ea)(x3:dz)(go:(Int×LI)→Option (LI×Bool))(v:Int×LI):Option (LI×Bool):=
 match v with
 |(x8,av)=>Q0 m x3 go x8 av
def P9 (m:ea)(x3:dz)(go6:(Int×LI)→Option (LI×Bool))(x4:Int)(bw:LI):Option (LI×Bool):=
 if x4<((List.replicate (x3.instrs.length:Int).toNat (0:Int)).length:Int)then
  bnd (nth bw x4) fun x7=>
  chk (I64 (x4+1))<|
  go6 ((x4+1),(bw.set x4.toNat (-1)))
 else
  if(x3.instrs.length:Int)=0 then
   some ([],false)
  else
   bnd (nth bw 0) fun x7=>
   itr (dV m x3) LF (0,(bw.set (0:Int).toNat 0))
def jQ (m:ea)(x3:dz)(go:(Int×LI)→Option (LI×Bool))(v:Int×LI):Option (LI×Bool):=
 match v with
 |(x4,bw)=>P9 m x3 go x4 bw
def gL (m:ea)(x_1:Int):Option (LI×Bool):=
 bnd (nth m.codes x_1) fun x3=>
 chk (0≤(x3.instrs.length:Int)∧(8:Nat) * (x3.instrs.length:Int)≤281474976710656∧(x3.instrs.length:Int)≤281474976710656)<|
 itr (jQ m x3) LF (0,(List.replicate (x3.instrs.length:Int).toNat (0:Int)))
def gO (op:Int):Option Bool:=
 if op=11 then
  some true
 else
  if op=18 then
   some true
  else
   if op=19 then
    some true
   else
    some (decide (op=20))
def cE (x6:Int)(go8:(Int×LI)→Option Bool)(cz:LI):Option Bool:=
 chk (I64 (x6+1))<|
 go8 ((x6+1),cz)
def X2 (x2:Int)(go4:(Int×LI)→Option Bool)(x5:dz)(go8:(Int×LI)→Option Bool)(x6:Int)(ci:LI):Option Bool:=
 if x6<(x5.instrs.length:Int)then
  bnd (nth x5.instrs x6) fun x9=>
  bnd (gO x9.op) fun x10=>
  if x10=true then
   bnd (nth ci x9.a) fun x11=>
   chk (I64 (x11+1))<|
   bnd (nth ci x9.a) fun x12=>
   cE x6 go8 (ci.set x9.a.toNat (x11+1))
  else
   cE x6 go8 ci
 else
  chk (I64 (x2+1))<|
  go4 ((x2+1),ci)
def iV (x2:Int)(go4:(Int×LI)→Option Bool)(x5:dz)(go:(Int×LI)→Option Bool)(v:Int×LI):Option Bool:=
 match v with
 |(x6,ci)=>X2 x2 go4 x5 go x6 ci
def cF (x5:Int)(go6:Int→Option Bool)(x8:Bool):Option Bool:=
 if x8=true then
  some false
 else
  chk (I64 (x5+1))<|
  go6 (x5+1)
def X3 (m:ea)(bj:LI)(go6:Int→Option Bool)(x5:Int):Option Bool:=
 if x5<(bj.length:Int)then
  bnd (nth bj x5) fun x7=>
  if x7=1 then
   cF x5 go6 false
  else
   cF x5 go6 (!decide (x5=m.main))
 else
  some true
def iW (m:ea)(bj:LI)(go:Int→Option Bool)(v:Int):Option Bool:=
 match v with
 |x5=>X3 m bj go x5
def X1 (m:ea)(go4:(Int×LI)→Option Bool)(x2:Int)(bj:LI):Option Bool:=
 if x2<(m.codes.length:Int)then
  bnd (nth m.codes x2) fun x5=>
  itr (iV x2 go4 x5) LF (0,bj)
 else
  itr (iW m bj) LF 0
def oT (m:ea)(go:(Int×LI)→Option Bool)(v:Int×LI):Option Bool:=
 match v with
 |(x2,bj)=>X1 m go x2 bj
def oS (m:ea):Option Bool:=
 chk (0≤(m.codes.length:Int)∧(8:Nat) * (m.codes.length:Int)≤281474976710656∧(m.codes.length:Int)≤281474976710656)<|
 itr (oT m) LF (0,(List.replicate (m.codes.length:Int).toNat (0:Int)))
def cU (m:ea)(go8:(Int×Int)→Option Bool)(x6 x7:Int):Option Bool:=
 if x7<(m.codes.length:Int)then
  bnd (oQ m x7) fun x9=>
  if x9=true then
   bnd (gL m x7) fun x10=>
   if x10.2=true then
    bnd (nth m.codes x7) fun x11=>
    chk (I64 (x6+(x11.instrs.length:Int)))<|
    chk (I64 (x7+1))<|
    go8 ((x6+(x11.instrs.length:Int)),(x7+1))
   else
    some false
  else
   some false
 else
  if x6≤16000 then
   bnd (oS m) fun x9=>
   some x9
  else
   some false
def oP (m:ea)(go:(Int×Int)→Option Bool)(v:Int×Int):Option Bool:=
 match v with
 |(x6,x7)=>cU m go x6 x7
def oO (m:ea)(captures:Int):Option Bool:=
 bnd (aY (m.codes.length:Int) 1 1500) fun x3=>
 if x3=true then
  chk (I64 ((m.codes.length:Int)-1))<|
  if m.main=((m.codes.length:Int)-1)then
   bnd (nth m.codes m.main) fun x4=>
   if x4.params=0 then
    bnd (nth m.codes m.main) fun x5=>
    if x5.captures=captures then
     itr (oP m) LF (0,0)
    else
     some false
   else
    some false
  else
   some false
 else
  some false
def Y4 (x6:Int)(go12:(Int×Int×Int×Int×LI×List dy)→Option (Int×List dz))(l13 l14 l15:Int)(x16:LI)(x17:List dy):Option (Int×List dz):=
 chk (I64 (x6+1))<|
 go12 ((x6+1),l13,l14,l15,x16,x17)
def V7 (codes:List dz)(params ae:LI)(body:PC)(go12:(Int×Int×Int×Int×LI×List dy)→Option (Int×List dz))(x6 l7 l8 l9:Int)(x10:LI)(x11:List dy):Option (Int×List dz):=
 if x6<(params.length:Int)then
  bnd (nth params x6) fun x13=>
  bnd (K7 ae x13) fun x14=>
  if x14=true then
   bnd (M5 l7 l8 l9 x11 x10 [] ae 10 x6) fun x15=>
   Y4 x6 go12 x15.2.1 x15.2.2.1 x15.2.2.2.1 x15.2.2.2.2.2 x15.2.2.2.2.1
  else
   Y4 x6 go12 l7 l8 l9 x10 x11
 else
  bnd (m7 RF codes l7 l8 l9 x11 x10 [] ae body true) fun x13=>
  chk ((x13.1.length+([(dz.mk x13.2.1 (x13.2.2.2.2.2.length:Int) x13.2.2.2.1 x13.2.2.2.2.1)]:List dz).length) * 48≤140737488355328)<|
  chk (I64 (((x13.1++([(dz.mk x13.2.1 (x13.2.2.2.2.2.length:Int) x13.2.2.2.1 x13.2.2.2.2.1)]:List dz)).length:Int)-1))<|
  some ((((x13.1++([(dz.mk x13.2.1 (x13.2.2.2.2.2.length:Int) x13.2.2.2.1 x13.2.2.2.2.1)]:List dz)).length:Int)-1),(x13.1++([(dz.mk x13.2.1 (x13.2.2.2.2.2.length:Int) x13.2.2.2.1 x13.2.2.2.2.1)]:List dz)))
def fA (codes:List dz)(params ae:LI)(body:PC)(go:(Int×Int×Int×Int×LI×List dy)→Option (Int×List dz))(v:Int×Int×Int×Int×LI×List dy):Option (Int×List dz):=
 match v with
 |(x6,l7,l8,l9,x10,x11)=>V7 codes params ae body go x6 l7 l8 l9 x10 x11
def cV (codes:List dz)(params ae:LI)(body:PC):Option (Int×List dz):=
 bnd (fF params) fun x5=>
 itr (fA codes params ae body) LF (0,(params.length:Int),0,0,x5,[])
def cS (c:PC):Option (ea×Bool):=
 bnd (uN c []) fun x2=>
 if x2=true then
  bnd (Y3 c) fun x3=>
  bnd (cV [] [] x3 c) fun x4=>
  bnd (oO (ea.mk x4.2 x4.1) 0) fun x5=>
  if x5=true then
   some ((ea.mk x4.2 x4.1),true)
  else
   some ((ea.mk [] 0),false)
 else
  some ((ea.mk [] 0),false)
end Go.Abs

namespace Go.Abs
set_option linter.unusedVariables false
def bE (go4:(Int×LB)→Option (LB))(k2:Int)(ce:LB):Option (LB):=
 if k2>0 then
  chk (0≤k2∧k2≤9223372036854775807∧(0:Int)<10)<|
  chk (I64 (48+(k2 % 10)))<|
  chk (0≤(48+(k2 % 10))∧(48+(k2 % 10))≤255)<|
  chk (([(UInt8.ofNat (48+(k2 % 10)).toNat)]:LB).length+ce.length≤9223372036854775807)<|
  chk (0≤k2∧k2≤9223372036854775807∧(0:Int)<10)<|
  go4 ((k2 / 10),(([(UInt8.ofNat (48+(k2 % 10)).toNat)]:LB)++ce))
 else
  chk (([109]:LB).length+ce.length≤9223372036854775807)<|
  some (([109]:LB)++ce)
def nG (go:(Int×LB)→Option (LB))(v:Int×LB):Option (LB):=
 match v with
 |(k2,ce)=>bE go k2 ce
def V9 (k:Int):Option (LB):=
 if k≤0 then
  some ([109,48]:LB)
 else
  itr nG LF (k,([]:LB))
def N2 (v9:List PD→Int→Option (Int×List PD))(go7:(Int×Int×List PD)→Option (Int×List PD))(k4 i5:Int)(a6:List PD):Option (Int×List PD):=
 if i5<(a6.length:Int)then
  bnd (nth a6 i5) fun x8=>
  chk (I64 (k4+1))<|
  bnd (nth (a6.set i5.toNat (PD.mk k4 x8.number x8.text x8.items)) i5) fun x9=>
  chk (I64 ((k4+1)+1))<|
  bnd (V9 ((k4+1)+1)) fun x10=>
  bnd (nth ((a6.set i5.toNat (PD.mk k4 x8.number x8.text x8.items)).set i5.toNat (PD.mk x9.kind (k4+1) x9.text x9.items)) i5) fun x11=>
  chk (I64 (((k4+1)+1)+1))<|
  bnd (nth (((a6.set i5.toNat (PD.mk k4 x8.number x8.text x8.items)).set i5.toNat (PD.mk x9.kind (k4+1) x9.text x9.items)).set i5.toNat (PD.mk x11.kind x11.number x10 x11.items)) i5) fun x12=>
  bnd (v9 x12.items (((k4+1)+1)+1)) fun x13=>
  chk (x13.2.length=x12.items.length)<|
  chk (I64 (i5+1))<|
  go7 (x13.1,(i5+1),((((a6.set i5.toNat (PD.mk k4 x8.number x8.text x8.items)).set i5.toNat (PD.mk x9.kind (k4+1) x9.text x9.items)).set i5.toNat (PD.mk x11.kind x11.number x10 x11.items)).set i5.toNat (PD.mk x12.kind x12.number x12.text x13.2)))
 else
  some (k4,a6)
def iB (v9:List PD→Int→Option (Int×List PD))(go:(Int×Int×List PD)→Option (Int×List PD))(v:Int×Int×List PD):Option (Int×List PD):=
 match v with
 |(k4,i5,a6)=>N2 v9 go k4 i5 a6
def bD (v9:List PD→Int→Option (Int×List PD))(a:List PD)(k:Int):Option (Int×List PD):=
 itr (iB v9) LF (k,0,a)
def v9:Nat→List PD→Int→Option (Int×List PD)
 |0,_,_=>none
 |n+1,a,k=>bD (v9 n) a k
def N3 (a:List dy)(go6:(Int×Int×List dy)→Option (Int×List dy))(k3 i4:Int)(a5:List dy):Option (Int×List dy):=
 if i4<(a5.length:Int)then
  bnd (nth a5 i4) fun x7=>
  chk (I64 (k3+1))<|
  bnd (nth (a5.set i4.toNat (dy.mk k3 x7.a x7.d)) i4) fun x8=>
  chk (I64 ((k3+1)+1))<|
  bnd (nth ((a5.set i4.toNat (dy.mk k3 x7.a x7.d)).set i4.toNat (dy.mk x8.op (k3+1) x8.d)) i4) fun x9=>
  chk (I64 (((k3+1)+1)+1))<|
  bnd (nth (((a5.set i4.toNat (dy.mk k3 x7.a x7.d)).set i4.toNat (dy.mk x8.op (k3+1) x8.d)).set i4.toNat (dy.mk x9.op x9.a (PD.mk ((k3+1)+1) x9.d.number x9.d.text x9.d.items))) i4) fun x10=>
  chk (I64 ((((k3+1)+1)+1)+1))<|
  bnd (V9 ((((k3+1)+1)+1)+1)) fun x11=>
  bnd (nth ((((a5.set i4.toNat (dy.mk k3 x7.a x7.d)).set i4.toNat (dy.mk x8.op (k3+1) x8.d)).set i4.toNat (dy.mk x9.op x9.a (PD.mk ((k3+1)+1) x9.d.number x9.d.text x9.d.items))).set i4.toNat (dy.mk x10.op x10.a (PD.mk x10.d.kind (((k3+1)+1)+1) x10.d.text x10.d.items))) i4) fun x12=>
  chk (I64 (((((k3+1)+1)+1)+1)+1))<|
  bnd (nth (((((a5.set i4.toNat (dy.mk k3 x7.a x7.d)).set i4.toNat (dy.mk x8.op (k3+1) x8.d)).set i4.toNat (dy.mk x9.op x9.a (PD.mk ((k3+1)+1) x9.d.number x9.d.text x9.d.items))).set i4.toNat (dy.mk x10.op x10.a (PD.mk x10.d.kind (((k3+1)+1)+1) x10.d.text x10.d.items))).set i4.toNat (dy.mk x12.op x12.a (PD.mk x12.d.kind x12.d.number x11 x12.d.items))) i4) fun x13=>
  bnd (v9 RF x13.d.items (((((k3+1)+1)+1)+1)+1)) fun x14=>
  chk (x14.2.length=x13.d.items.length)<|
  chk (I64 (i4+1))<|
  go6 (x14.1,(i4+1),((((((a5.set i4.toNat (dy.mk k3 x7.a x7.d)).set i4.toNat (dy.mk x8.op (k3+1) x8.d)).set i4.toNat (dy.mk x9.op x9.a (PD.mk ((k3+1)+1) x9.d.number x9.d.text x9.d.items))).set i4.toNat (dy.mk x10.op x10.a (PD.mk x10.d.kind (((k3+1)+1)+1) x10.d.text x10.d.items))).set i4.toNat (dy.mk x12.op x12.a (PD.mk x12.d.kind x12.d.number x11 x12.d.items))).set i4.toNat (dy.mk x13.op x13.a (PD.mk x13.d.kind x13.d.number x13.d.text x14.2))))
 else
  some (k3,a5)
def iE (a:List dy)(go:(Int×Int×List dy)→Option (Int×List dy))(v:Int×Int×List dy):Option (Int×List dy):=
 match v with
 |(k3,i4,a5)=>N3 a go k3 i4 a5
def eU (a:List dy)(k:Int):Option (Int×List dy):=
 itr (iE a) LF (k,0,a)
def Q3 (go6:(Int×Int×List dz)→Option (Int×List dz))(k3 i4:Int)(a5:List dz):Option (Int×List dz):=
 if i4<(a5.length:Int)then
  bnd (nth a5 i4) fun x7=>
  chk (I64 (k3+1))<|
  bnd (nth (a5.set i4.toNat (dz.mk k3 x7.slots x7.captures x7.instrs)) i4) fun x8=>
  chk (I64 ((k3+1)+1))<|
  bnd (nth ((a5.set i4.toNat (dz.mk k3 x7.slots x7.captures x7.instrs)).set i4.toNat (dz.mk x8.params (k3+1) x8.captures x8.instrs)) i4) fun x9=>
  chk (I64 (((k3+1)+1)+1))<|
  bnd (nth (((a5.set i4.toNat (dz.mk k3 x7.slots x7.captures x7.instrs)).set i4.toNat (dz.mk x8.params (k3+1) x8.captures x8.instrs)).set i4.toNat (dz.mk x9.params x9.slots ((k3+1)+1) x9.instrs)) i4) fun x10=>
  bnd (eU x10.instrs (((k3+1)+1)+1)) fun x11=>
  chk (x11.2.length=x10.instrs.length)<|
  chk (I64 (i4+1))<|
  go6 (x11.1,(i4+1),((((a5.set i4.toNat (dz.mk k3 x7.slots x7.captures x7.instrs)).set i4.toNat (dz.mk x8.params (k3+1) x8.captures x8.instrs)).set i4.toNat (dz.mk x9.params x9.slots ((k3+1)+1) x9.instrs)).set i4.toNat (dz.mk x10.params x10.slots x10.captures x11.2)))
 else
  some (k3,a5)
def jW (go:(Int×Int×List dz)→Option (Int×List dz))(v:Int×Int×List dz):Option (Int×List dz):=
 match v with
 |(k3,i4,a5)=>Q3 go k3 i4 a5
def hZ (a:List dz)(k:Int):Option (Int×List dz):=
 itr jW LF (k,0,a)
def iD (a:ea)(k:Int):Option (Int×List dz):=
 bnd (hZ a.codes k) fun x3=>
 chk (x3.2.length=a.codes.length)<|
 some (x3.1,x3.2)
def N0 (z7:List PD→Int→Option Int)(a:List PD)(go6:(Int×Int)→Option Int)(k4 i5:Int):Option Int:=
 if i5<(a.length:Int)then
  bnd (nth a i5) fun x7=>
  if x7.kind=k4 then
   chk (I64 (k4+1))<|
   bnd (nth a i5) fun x8=>
   if x8.number=(k4+1)then
    chk (I64 ((k4+1)+1))<|
    bnd (nth a i5) fun x9=>
    bnd (V9 ((k4+1)+1)) fun x10=>
    if x9.text=x10 then
     chk (I64 (((k4+1)+1)+1))<|
     bnd (nth a i5) fun x11=>
     bnd (z7 x11.items (((k4+1)+1)+1)) fun x12=>
     if x12<0 then
      some (-1)
     else
      chk (I64 (i5+1))<|
      go6 (x12,(i5+1))
    else
     some (-1)
   else
    some (-1)
  else
   some (-1)
 else
  some k4
def hU (z7:List PD→Int→Option Int)(a:List PD)(go:(Int×Int)→Option Int)(v:Int×Int):Option Int:=
 match v with
 |(k4,i5)=>N0 z7 a go k4 i5
def bC (z7:List PD→Int→Option Int)(a:List PD)(k:Int):Option Int:=
 itr (hU z7 a) LF (k,0)
def z7:Nat→List PD→Int→Option Int
 |0,_,_=>none
 |n+1,a,k=>bC (z7 n) a k
def N1 (a:List dy)(go5:(Int×Int)→Option Int)(k3 i4:Int):Option Int:=
 if i4<(a.length:Int)then
  bnd (nth a i4) fun x6=>
  if x6.op=k3 then
   chk (I64 (k3+1))<|
   bnd (nth a i4) fun x7=>
   if x7.a=(k3+1)then
    chk (I64 ((k3+1)+1))<|
    bnd (nth a i4) fun x8=>
    if x8.d.kind=((k3+1)+1)then
     chk (I64 (((k3+1)+1)+1))<|
     bnd (nth a i4) fun x9=>
     if x9.d.number=(((k3+1)+1)+1)then
      chk (I64 ((((k3+1)+1)+1)+1))<|
      bnd (nth a i4) fun x10=>
      bnd (V9 ((((k3+1)+1)+1)+1)) fun x11=>
      if x10.d.text=x11 then
       chk (I64 (((((k3+1)+1)+1)+1)+1))<|
       bnd (nth a i4) fun x12=>
       bnd (z7 RF x12.d.items (((((k3+1)+1)+1)+1)+1)) fun x13=>
       if x13<0 then
        some (-1)
       else
        chk (I64 (i4+1))<|
        go5 (x13,(i4+1))
      else
       some (-1)
     else
      some (-1)
    else
     some (-1)
   else
    some (-1)
  else
   some (-1)
 else
  some k3
def hY (a:List dy)(go:(Int×Int)→Option Int)(v:Int×Int):Option Int:=
 match v with
 |(k3,i4)=>N1 a go k3 i4
def eT (a:List dy)(k:Int):Option Int:=
 itr (hY a) LF (k,0)
def Q2 (a:List dz)(go5:(Int×Int)→Option Int)(k3 i4:Int):Option Int:=
 if i4<(a.length:Int)then
  bnd (nth a i4) fun x6=>
  if x6.params=k3 then
   chk (I64 (k3+1))<|
   bnd (nth a i4) fun x7=>
   if x7.slots=(k3+1)then
    chk (I64 ((k3+1)+1))<|
    bnd (nth a i4) fun x8=>
    if x8.captures=((k3+1)+1)then
     chk (I64 (((k3+1)+1)+1))<|
     bnd (nth a i4) fun x9=>
     bnd (eT x9.instrs (((k3+1)+1)+1)) fun x10=>
     if x10<0 then
      some (-1)
     else
      chk (I64 (i4+1))<|
      go5 (x10,(i4+1))
    else
     some (-1)
   else
    some (-1)
  else
   some (-1)
 else
  some k3
def jU (a:List dz)(go:(Int×Int)→Option Int)(v:Int×Int):Option Int:=
 match v with
 |(k3,i4)=>Q2 a go k3 i4
def hO (a:List dz)(k:Int):Option Int:=
 itr (jU a) LF (k,0)
def dS (a:ea)(k:Int):Option Int:=
 bnd (hO a.codes k) fun x3=>
 if x3<0 then
  some (-1)
 else
  some x3
end Go.Abs

namespace Go.Abs
set_option linter.unusedVariables false
def vA (a:LI)(ba:Int):Option Int:=
 chk (I64 (ba-(a.length:Int)))<|
 if(ba-(a.length:Int))<0 then
  some (-1)
 else
  some (ba-(a.length:Int))
def iJ (B1:PD→Int→Option Int)(E7:List PD→Int→Option Int)(a:PD)(ba:Int):Option Int:=
 chk (I64 (ba-(a.text.length:Int)))<|
 if(ba-(a.text.length:Int))<0 then
  some (-1)
 else
  bnd (E7 a.items (ba-(a.text.length:Int))) fun x5=>
  if x5<0 then
   some (-1)
  else
   some x5
def jZ (B1:PD→Int→Option Int)(a:List PD)(go7:(Int×Int)→Option Int)(ay i6:Int):Option Int:=
 if i6<(a.length:Int)then
  bnd (nth a i6) fun x8=>
  bnd (B1 x8 ay) fun x9=>
  if x9<0 then
   some (-1)
  else
   chk (I64 (i6+1))<|
   go7 (x9,(i6+1))
 else
  some ay
def nK (B1:PD→Int→Option Int)(a:List PD)(go:(Int×Int)→Option Int)(v:Int×Int):Option Int:=
 match v with
 |(ay,i6)=>jZ B1 a go ay i6
def eV (B1:PD→Int→Option Int)(E7:List PD→Int→Option Int)(a:List PD)(ba:Int):Option Int:=
 chk (I64 (ba-(a.length:Int)))<|
 if(ba-(a.length:Int))<0 then
  some (-1)
 else
  itr (nK B1 a) LF ((ba-(a.length:Int)),0)
mutual
def B1:Nat→PD→Int→Option Int
 |0,_,_=>none
 |n+1,a,ba=>iJ (B1 n) (E7 n) a ba
def E7:Nat→List PD→Int→Option Int
 |0,_,_=>none
 |n+1,a,ba=>eV (B1 n) (E7 n) a ba
end
def lF (D0:PC→Int→Option Int)(J1:List PC→Int→Option Int)(a:PC)(ba:Int):Option Int:=
 bnd (vA a.params ba) fun x5=>
 if x5<0 then
  some (-1)
 else
  bnd (B1 RF a.datum x5) fun x6=>
  if x6<0 then
   some (-1)
  else
   bnd (J1 a.kids x6) fun x7=>
   if x7<0 then
    some (-1)
   else
    some x7
def nJ (D0:PC→Int→Option Int)(a:List PC)(go7:(Int×Int)→Option Int)(ay i6:Int):Option Int:=
 if i6<(a.length:Int)then
  bnd (nth a i6) fun x8=>
  bnd (D0 x8 ay) fun x9=>
  if x9<0 then
   some (-1)
  else
   chk (I64 (i6+1))<|
   go7 (x9,(i6+1))
 else
  some ay
def pJ (D0:PC→Int→Option Int)(a:List PC)(go:(Int×Int)→Option Int)(v:Int×Int):Option Int:=
 match v with
 |(ay,i6)=>nJ D0 a go ay i6
def iG (D0:PC→Int→Option Int)(J1:List PC→Int→Option Int)(a:List PC)(ba:Int):Option Int:=
 chk (I64 (ba-(a.length:Int)))<|
 if(ba-(a.length:Int))<0 then
  some (-1)
 else
  itr (pJ D0 a) LF ((ba-(a.length:Int)),0)
mutual
def D0:Nat→PC→Int→Option Int
 |0,_,_=>none
 |n+1,a,ba=>lF (D0 n) (J1 n) a ba
def J1:Nat→List PC→Int→Option Int
 |0,_,_=>none
 |n+1,a,ba=>iG (D0 n) (J1 n) a ba
end
def pL (a:LI)(go4:(Int×LI)→Option (LI))(i2:Int)(ce:LI):Option (LI):=
 if i2<(a.length:Int)then
  bnd (nth a i2) fun x5=>
  bnd (nth ce i2) fun x6=>
  chk (I64 (i2+1))<|
  go4 ((i2+1),(ce.set i2.toNat x5))
 else
  some ce
def sS (a:LI)(go:(Int×LI)→Option (LI))(v:Int×LI):Option (LI):=
 match v with
 |(i2,ce)=>pL a go i2 ce
def yP (a:LI):Option (LI):=
 chk (0≤(a.length:Int)∧(8:Nat) * (a.length:Int)≤281474976710656∧(a.length:Int)≤281474976710656)<|
 itr (sS a) LF (0,(List.replicate (a.length:Int).toNat (0:Int)))
def iL (A4:PD→Option PD)(E8:List PD→Option (List PD))(a:PD):Option PD:=
 bnd (E8 a.items) fun x4=>
 some (PD.mk a.kind a.number a.text x4)
def kA (A4:PD→Option PD)(a:List PD)(go6:(Int×List PD)→Option (List PD))(i4:Int)(aw:List PD):Option (List PD):=
 if i4<(a.length:Int)then
  bnd (nth a i4) fun x7=>
  bnd (A4 x7) fun x8=>
  bnd (nth aw i4) fun x9=>
  chk (I64 (i4+1))<|
  go6 ((i4+1),(aw.set i4.toNat x8))
 else
  some aw
def nM (A4:PD→Option PD)(a:List PD)(go:(Int×List PD)→Option (List PD))(v:Int×List PD):Option (List PD):=
 match v with
 |(i4,aw)=>kA A4 a go i4 aw
def eW (A4:PD→Option PD)(E8:List PD→Option (List PD))(a:List PD):Option (List PD):=
 chk (0≤(a.length:Int)∧(56:Nat) * (a.length:Int)≤281474976710656∧(a.length:Int)≤281474976710656)<|
 itr (nM A4 a) LF (0,(List.replicate (a.length:Int).toNat ((PD.mk 0 0 ([]:LB) []):PD)))
mutual
def A4:Nat→PD→Option PD
 |0,_=>none
 |n+1,a=>iL (A4 n) (E8 n) a
def E8:Nat→List PD→Option (List PD)
 |0,_=>none
 |n+1,a=>eW (A4 n) (E8 n) a
end
def lG (B2:PC→Option PC)(J2:List PC→Option (List PC))(a:PC):Option PC:=
 bnd (yP a.params) fun x4=>
 bnd (A4 RF a.datum) fun x5=>
 bnd (J2 a.kids) fun x6=>
 some (PC.mk a.kind a.number x4 x5 x6)
def nL (B2:PC→Option PC)(a:List PC)(go6:(Int×List PC)→Option (List PC))(i4:Int)(aw:List PC):Option (List PC):=
 if i4<(a.length:Int)then
  bnd (nth a i4) fun x7=>
  bnd (B2 x7) fun x8=>
  bnd (nth aw i4) fun x9=>
  chk (I64 (i4+1))<|
  go6 ((i4+1),(aw.set i4.toNat x8))
 else
  some aw
def pK (B2:PC→Option PC)(a:List PC)(go:(Int×List PC)→Option (List PC))(v:Int×List PC):Option (List PC):=
 match v with
 |(i4,aw)=>nL B2 a go i4 aw
def iK (B2:PC→Option PC)(J2:List PC→Option (List PC))(a:List PC):Option (List PC):=
 chk (0≤(a.length:Int)∧(120:Nat) * (a.length:Int)≤281474976710656∧(a.length:Int)≤281474976710656)<|
 itr (pK B2 a) LF (0,(List.replicate (a.length:Int).toNat ((PC.mk 0 0 [] (PD.mk 0 0 ([]:LB) []) []):PC)))
mutual
def B2:Nat→PC→Option PC
 |0,_=>none
 |n+1,a=>lG (B2 n) (J2 n) a
def J2:Nat→List PC→Option (List PC)
 |0,_=>none
 |n+1,a=>iK (B2 n) (J2 n) a
end
def gY (A2:PD→PD→Option Bool)(E6:List PD→List PD→Option Bool)(a b:PD):Option Bool:=
 if a.kind=b.kind then
  if a.number=b.number then
   if a.text=b.text then
    bnd (E6 a.items b.items) fun x5=>
    if x5=true then
     some true
    else
     some false
   else
    some false
  else
   some false
 else
  some false
def jS (A2:PD→PD→Option Bool)(a b:List PD)(go6:Int→Option Bool)(i5:Int):Option Bool:=
 if i5<(a.length:Int)then
  bnd (nth a i5) fun x7=>
  bnd (nth b i5) fun x8=>
  bnd (A2 x7 x8) fun x9=>
  if x9=true then
   chk (I64 (i5+1))<|
   go6 (i5+1)
  else
   some false
 else
  some true
def nC (A2:PD→PD→Option Bool)(a b:List PD)(go:Int→Option Bool)(v:Int):Option Bool:=
 match v with
 |i5=>jS A2 a b go i5
def eS (A2:PD→PD→Option Bool)(E6:List PD→List PD→Option Bool)(a b:List PD):Option Bool:=
 if(a.length:Int)=(b.length:Int)then
  itr (nC A2 a b) LF 0
 else
  some false
mutual
def A2:Nat→PD→PD→Option Bool
 |0,_,_=>none
 |n+1,a,b=>gY (A2 n) (E6 n) a b
def E6:Nat→List PD→List PD→Option Bool
 |0,_,_=>none
 |n+1,a,b=>eS (A2 n) (E6 n) a b
end
def lC (a b:dy):Option Bool:=
 if a.op=b.op then
  if a.a=b.a then
   bnd (A2 RF a.d b.d) fun x3=>
   if x3=true then
    some true
   else
    some false
  else
   some false
 else
  some false
def jT (a b:List dy)(go4:Int→Option Bool)(i3:Int):Option Bool:=
 if i3<(a.length:Int)then
  bnd (nth a i3) fun x5=>
  bnd (nth b i3) fun x6=>
  bnd (lC x5 x6) fun x7=>
  if x7=true then
   chk (I64 (i3+1))<|
   go4 (i3+1)
  else
   some false
 else
  some true
def nD (a b:List dy)(go:Int→Option Bool)(v:Int):Option Bool:=
 match v with
 |i3=>jT a b go i3
def qL (a b:List dy):Option Bool:=
 if(a.length:Int)=(b.length:Int)then
  itr (nD a b) LF 0
 else
  some false
def qK (a b:dz):Option Bool:=
 if a.params=b.params then
  if a.slots=b.slots then
   if a.captures=b.captures then
    bnd (qL a.instrs b.instrs) fun x3=>
    if x3=true then
     some true
    else
     some false
   else
    some false
  else
   some false
 else
  some false
def mZ (a b:List dz)(go4:Int→Option Bool)(i3:Int):Option Bool:=
 if i3<(a.length:Int)then
  bnd (nth a i3) fun x5=>
  bnd (nth b i3) fun x6=>
  bnd (qK x5 x6) fun x7=>
  if x7=true then
   chk (I64 (i3+1))<|
   go4 (i3+1)
  else
   some false
 else
  some true
def pE (a b:List dz)(go:Int→Option Bool)(v:Int):Option Bool:=
 match v with
 |i3=>mZ a b go i3
def uY (a b:List dz):Option Bool:=
 if(a.length:Int)=(b.length:Int)then
  itr (pE a b) LF 0
 else
  some false
def gZ (a b:ea):Option Bool:=
 bnd (uY a.codes b.codes) fun x3=>
 if x3=true then
  if a.main=b.main then
   some true
  else
   some false
 else
  some false
def pI (a b:LI)(go4:Int→Option Bool)(i3:Int):Option Bool:=
 if i3<(a.length:Int)then
  bnd (nth a i3) fun x5=>
  bnd (nth b i3) fun x6=>
  if x5=x6 then
   chk (I64 (i3+1))<|
   go4 (i3+1)
  else
   some false
 else
  some true
def sQ (a b:LI)(go:Int→Option Bool)(v:Int):Option Bool:=
 match v with
 |i3=>pI a b go i3
def yO (a b:LI):Option Bool:=
 if(a.length:Int)=(b.length:Int)then
  itr (sQ a b) LF 0
 else
  some false
def lB (C5:PC→PC→Option Bool)(J0:List PC→List PC→Option Bool)(a b:PC):Option Bool:=
 if a.kind=b.kind then
  if a.number=b.number then
   bnd (yO a.params b.params) fun x5=>
   if x5=true then
    bnd (A2 RF a.datum b.datum) fun x6=>
    if x6=true then
     bnd (J0 a.kids b.kids) fun x7=>
     if x7=true then
      some true
     else
      some false
    else
     some false
   else
    some false
  else
   some false
 else
  some false
def nB (C5:PC→PC→Option Bool)(a b:List PC)(go6:Int→Option Bool)(i5:Int):Option Bool:=
 if i5<(a.length:Int)then
  bnd (nth a i5) fun x7=>
  bnd (nth b i5) fun x8=>
  bnd (C5 x7 x8) fun x9=>
  if x9=true then
   chk (I64 (i5+1))<|
   go6 (i5+1)
  else
   some false
 else
  some true
def pF (C5:PC→PC→Option Bool)(a b:List PC)(go:Int→Option Bool)(v:Int):Option Bool:=
 match v with
 |i5=>nB C5 a b go i5
def gW (C5:PC→PC→Option Bool)(J0:List PC→List PC→Option Bool)(a b:List PC):Option Bool:=
 if(a.length:Int)=(b.length:Int)then
  itr (pF C5 a b) LF 0
 else
  some false
mutual
def C5:Nat→PC→PC→Option Bool
 |0,_,_=>none
 |n+1,a,b=>lB (C5 n) (J0 n) a b
def J0:Nat→List PC→List PC→Option Bool
 |0,_,_=>none
 |n+1,a,b=>gW (C5 n) (J0 n) a b
end
def V1 (go6:(Int×Int×LI)→Option (Int×LI))(k3 i4:Int)(a5:LI):Option (Int×LI):=
 if i4<(a5.length:Int)then
  bnd (nth a5 i4) fun x7=>
  chk (I64 (k3+1))<|
  chk (I64 (i4+1))<|
  go6 ((k3+1),(i4+1),(a5.set i4.toNat k3))
 else
  some (k3,a5)
def nF (go:(Int×Int×LI)→Option (Int×LI))(v:Int×Int×LI):Option (Int×LI):=
 match v with
 |(k3,i4,a5)=>V1 go k3 i4 a5
def dT (a:LI)(k:Int):Option (Int×LI):=
 itr nF LF (k,0,a)
def iA (a:PD)(k:Int):Option (Int×List PD):=
 bnd (v9 RF a.items k) fun x3=>
 chk (x3.2.length=a.items.length)<|
 some (x3.1,x3.2)
def Q4 (A9:List PC→Int→Option (Int×List PC))(go7:(Int×Int×List PC)→Option (Int×List PC))(k4 i5:Int)(a6:List PC):Option (Int×List PC):=
 if i5<(a6.length:Int)then
  bnd (nth a6 i5) fun x8=>
  chk (I64 (k4+1))<|
  bnd (nth (a6.set i5.toNat (PC.mk k4 x8.number x8.params x8.datum x8.kids)) i5) fun x9=>
  chk (I64 ((k4+1)+1))<|
  bnd (nth ((a6.set i5.toNat (PC.mk k4 x8.number x8.params x8.datum x8.kids)).set i5.toNat (PC.mk x9.kind (k4+1) x9.params x9.datum x9.kids)) i5) fun x10=>
  bnd (dT x10.params ((k4+1)+1)) fun x11=>
  chk (x11.2.length=x10.params.length)<|
  bnd (nth (((a6.set i5.toNat (PC.mk k4 x8.number x8.params x8.datum x8.kids)).set i5.toNat (PC.mk x9.kind (k4+1) x9.params x9.datum x9.kids)).set i5.toNat (PC.mk x10.kind x10.number x11.2 x10.datum x10.kids)) i5) fun x12=>
  chk (I64 (x11.1+1))<|
  bnd (nth ((((a6.set i5.toNat (PC.mk k4 x8.number x8.params x8.datum x8.kids)).set i5.toNat (PC.mk x9.kind (k4+1) x9.params x9.datum x9.kids)).set i5.toNat (PC.mk x10.kind x10.number x11.2 x10.datum x10.kids)).set i5.toNat (PC.mk x12.kind x12.number x12.params (PD.mk x11.1 x12.datum.number x12.datum.text x12.datum.items) x12.kids)) i5) fun x13=>
  chk (I64 ((x11.1+1)+1))<|
  bnd (V9 ((x11.1+1)+1)) fun x14=>
  bnd (nth (((((a6.set i5.toNat (PC.mk k4 x8.number x8.params x8.datum x8.kids)).set i5.toNat (PC.mk x9.kind (k4+1) x9.params x9.datum x9.kids)).set i5.toNat (PC.mk x10.kind x10.number x11.2 x10.datum x10.kids)).set i5.toNat (PC.mk x12.kind x12.number x12.params (PD.mk x11.1 x12.datum.number x12.datum.text x12.datum.items) x12.kids)).set i5.toNat (PC.mk x13.kind x13.number x13.params (PD.mk x13.datum.kind (x11.1+1) x13.datum.text x13.datum.items) x13.kids)) i5) fun x15=>
  chk (I64 (((x11.1+1)+1)+1))<|
  bnd (nth ((((((a6.set i5.toNat (PC.mk k4 x8.number x8.params x8.datum x8.kids)).set i5.toNat (PC.mk x9.kind (k4+1) x9.params x9.datum x9.kids)).set i5.toNat (PC.mk x10.kind x10.number x11.2 x10.datum x10.kids)).set i5.toNat (PC.mk x12.kind x12.number x12.params (PD.mk x11.1 x12.datum.number x12.datum.text x12.datum.items) x12.kids)).set i5.toNat (PC.mk x13.kind x13.number x13.params (PD.mk x13.datum.kind (x11.1+1) x13.datum.text x13.datum.items) x13.kids)).set i5.toNat (PC.mk x15.kind x15.number x15.params (PD.mk x15.datum.kind x15.datum.number x14 x15.datum.items) x15.kids)) i5) fun x16=>
  bnd (v9 RF x16.datum.items (((x11.1+1)+1)+1)) fun x17=>
  chk (x17.2.length=x16.datum.items.length)<|
  bnd (nth (((((((a6.set i5.toNat (PC.mk k4 x8.number x8.params x8.datum x8.kids)).set i5.toNat (PC.mk x9.kind (k4+1) x9.params x9.datum x9.kids)).set i5.toNat (PC.mk x10.kind x10.number x11.2 x10.datum x10.kids)).set i5.toNat (PC.mk x12.kind x12.number x12.params (PD.mk x11.1 x12.datum.number x12.datum.text x12.datum.items) x12.kids)).set i5.toNat (PC.mk x13.kind x13.number x13.params (PD.mk x13.datum.kind (x11.1+1) x13.datum.text x13.datum.items) x13.kids)).set i5.toNat (PC.mk x15.kind x15.number x15.params (PD.mk x15.datum.kind x15.datum.number x14 x15.datum.items) x15.kids)).set i5.toNat (PC.mk x16.kind x16.number x16.params (PD.mk x16.datum.kind x16.datum.number x16.datum.text x17.2) x16.kids)) i5) fun x18=>
  bnd (A9 x18.kids x17.1) fun x19=>
  chk (x19.2.length=x18.kids.length)<|
  chk (I64 (i5+1))<|
  go7 (x19.1,(i5+1),((((((((a6.set i5.toNat (PC.mk k4 x8.number x8.params x8.datum x8.kids)).set i5.toNat (PC.mk x9.kind (k4+1) x9.params x9.datum x9.kids)).set i5.toNat (PC.mk x10.kind x10.number x11.2 x10.datum x10.kids)).set i5.toNat (PC.mk x12.kind x12.number x12.params (PD.mk x11.1 x12.datum.number x12.datum.text x12.datum.items) x12.kids)).set i5.toNat (PC.mk x13.kind x13.number x13.params (PD.mk x13.datum.kind (x11.1+1) x13.datum.text x13.datum.items) x13.kids)).set i5.toNat (PC.mk x15.kind x15.number x15.params (PD.mk x15.datum.kind x15.datum.number x14 x15.datum.items) x15.kids)).set i5.toNat (PC.mk x16.kind x16.number x16.params (PD.mk x16.datum.kind x16.datum.number x16.datum.text x17.2) x16.kids)).set i5.toNat (PC.mk x18.kind x18.number x18.params x18.datum x19.2)))
 else
  some (k4,a6)
def jX (A9:List PC→Int→Option (Int×List PC))(go:(Int×Int×List PC)→Option (Int×List PC))(v:Int×Int×List PC):Option (Int×List PC):=
 match v with
 |(k4,i5,a6)=>Q4 A9 go k4 i5 a6
def cY (A9:List PC→Int→Option (Int×List PC))(a:List PC)(k:Int):Option (Int×List PC):=
 itr (jX A9) LF (k,0,a)
def A9:Nat→List PC→Int→Option (Int×List PC)
 |0,_,_=>none
 |n+1,a,k=>cY (A9 n) a k
def lD (a:PC)(k:Int):Option (Int×LI×List PD×List PC):=
 bnd (dT a.params k) fun x3=>
 chk (x3.2.length=a.params.length)<|
 bnd (iA a.datum x3.1) fun x4=>
 chk (x4.2.length=a.datum.items.length)<|
 bnd (A9 RF a.kids x4.1) fun x5=>
 chk (x5.2.length=a.kids.length)<|
 some (x5.1,x3.2,x4.2,x5.2)
def V3 (aC:PC):Option Bool:=
 bnd (D0 RF aC 1048576) fun x2=>
 if x2<0 then
  some true
 else
  bnd (B2 RF aC) fun x3=>
  bnd (cS x3) fun x4=>
  bnd (B2 RF aC) fun x5=>
  bnd (aV x5) fun x6=>
  bnd (gZ x6.1 x4.1) fun x7=>
  if x7=true then
   if x6.2=x4.2 then
    bnd (B2 RF aC) fun x8=>
    bnd (C5 RF x5 x8) fun x9=>
    if x9=true then
     bnd (lD x5 1) fun x10=>
     chk (x10.2.1.length=x5.params.length)<|
     chk (x10.2.2.1.length=x5.datum.items.length)<|
     chk (x10.2.2.2.length=x5.kids.length)<|
     if x10.1<0 then
      some false
     else
      bnd (gZ x6.1 x4.1) fun x11=>
      if x11=true then
       if x6.2=x4.2 then
        bnd (iD x6.1 1) fun x12=>
        chk (x12.2.length=x6.1.codes.length)<|
        bnd (dS (ea.mk x12.2 x6.1.main) 1) fun x13=>
        if x13<0 then
         some false
        else
         if x13=x12.1 then
          bnd (B2 RF aC) fun x14=>
          bnd (aV x14) fun x15=>
          bnd (gZ x15.1 x4.1) fun x16=>
          if x16=true then
           if x15.2=x4.2 then
            bnd (dS (ea.mk x12.2 x6.1.main) 1) fun x17=>
            if x17<0 then
             some false
            else
             if x17=x12.1 then
              some true
             else
              some false
           else
            some false
          else
           some false
         else
          some false
       else
        some false
      else
       some false
    else
     some false
   else
    some false
  else
   some false
end Go.Abs
