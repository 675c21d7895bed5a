/-
  The law, from what is known.
-/
import Derived.Test.YtbdmleibanpfnaaGreatDoorNAt
import Derived.Test.YtbdmleibanpfnaaGreatDoorLibE
import Derived.Test.YtbdmleibanpfnaaGreatDoorRL
import Derived.Test.YtbdmleibanpfnaaGreatDoorRT
import Derived.Test.YtbdmleibanpfnaaGreatDoorRR0
import Derived.Test.YtbdmleibanpfnaaGreatDoorRR1
import Derived.Test.YtbdmleibanpfnaaGreatDoorRR2
import Derived.Test.YtbdmleibanpfnaaGreatDoorRR3
import Derived.Test.YtbdmleibanpfnaaGreatDoorRR4
import Derived.Test.YtbdmleibanpfnaaGreatDoorRR5
import Derived.Test.YtbdmleibanpfnaaGreatDoorRR6
import Derived.Test.YtbdmleibanpfnaaGreatDoorRR7
import Derived.Test.YtbdmleibanpfnaaGreatDoorRR8
import Derived.Test.YtbdmleibanpfnaaGreatDoorRR9
import Derived.Test.YtbdmleibanpfnaaGreatDoorRR10
import Derived.Test.YtbdmleibanpfnaaGreatDoorRR11
import Derived.Test.YtbdmleibanpfnaaGreatDoorRR12
import Derived.Test.YtbdmleibanpfnaaGreatDoorRR13
import Derived.Test.YtbdmleibanpfnaaGreatDoorRR14
import Derived.Test.YtbdmleibanpfnaaGreatDoorRR15
import Derived.Test.YtbdmleibanpfnaaGreatDoorRR16
import Derived.Test.YtbdmleibanpfnaaGreatDoorRR17
import Derived.Test.YtbdmleibanpfnaaGreatDoorRR18
import Derived.Test.YtbdmleibanpfnaaGreatDoorRR19
import Derived.Test.YtbdmleibanpfnaaGreatDoorRR20
import Derived.Test.YtbdmleibanpfnaaGreatDoorRR21
import Derived.Test.YtbdmleibanpfnaaGreatDoorRR22
import Derived.Test.YtbdmleibanpfnaaGreatDoorRR23
import Derived.Test.YtbdmleibanpfnaaGreatDoorRR24
set_option linter.all false
set_option linter.all false
set_option maxRecDepth 100000
namespace Go.X1
open Go.Proofs
def Ck0 (m:Nat):Prop:=chkB1 pk0 rk0 1 m (g0 45)=true
theorem allk0 (m:Nat) (h:m<100):Ck0 m:=
 if h50:m<50 then
  if h25:m<25 then
   if h12:m<12 then
    if h6:m<6 then
     if h3:m<3 then
      if h1:m<1 then
       have e:m=0:=by omega
       e ▸ (ev0_0:Ck0 0)
      else
       if h2:m<2 then
        have e:m=1:=by omega
        e ▸ (ev0_1:Ck0 1)
       else
        have e:m=2:=by omega
        e ▸ (ev0_2:Ck0 2)
     else
      if h4:m<4 then
       have e:m=3:=by omega
       e ▸ (ev0_3:Ck0 3)
      else
       if h5:m<5 then
        have e:m=4:=by omega
        e ▸ (ev0_4:Ck0 4)
       else
        have e:m=5:=by omega
        e ▸ (ev0_5:Ck0 5)
    else
     if h9:m<9 then
      if h7:m<7 then
       have e:m=6:=by omega
       e ▸ (ev0_6:Ck0 6)
      else
       if h8:m<8 then
        have e:m=7:=by omega
        e ▸ (ev0_7:Ck0 7)
       else
        have e:m=8:=by omega
        e ▸ (ev0_8:Ck0 8)
     else
      if h10:m<10 then
       have e:m=9:=by omega
       e ▸ (ev0_9:Ck0 9)
      else
       if h11:m<11 then
        have e:m=10:=by omega
        e ▸ (ev0_10:Ck0 10)
       else
        have e:m=11:=by omega
        e ▸ (ev0_11:Ck0 11)
   else
    if h18:m<18 then
     if h15:m<15 then
      if h13:m<13 then
       have e:m=12:=by omega
       e ▸ (ev0_12:Ck0 12)
      else
       if h14:m<14 then
        have e:m=13:=by omega
        e ▸ (ev0_13:Ck0 13)
       else
        have e:m=14:=by omega
        e ▸ (ev0_14:Ck0 14)
     else
      if h16:m<16 then
       have e:m=15:=by omega
       e ▸ (ev0_15:Ck0 15)
      else
       if h17:m<17 then
        have e:m=16:=by omega
        e ▸ (ev0_16:Ck0 16)
       else
        have e:m=17:=by omega
        e ▸ (ev0_17:Ck0 17)
    else
     if h21:m<21 then
      if h19:m<19 then
       have e:m=18:=by omega
       e ▸ (ev0_18:Ck0 18)
      else
       if h20:m<20 then
        have e:m=19:=by omega
        e ▸ (ev0_19:Ck0 19)
       else
        have e:m=20:=by omega
        e ▸ (ev0_20:Ck0 20)
     else
      if h23:m<23 then
       if h22:m<22 then
        have e:m=21:=by omega
        e ▸ (ev0_21:Ck0 21)
       else
        have e:m=22:=by omega
        e ▸ (ev0_22:Ck0 22)
      else
       if h24:m<24 then
        have e:m=23:=by omega
        e ▸ (ev0_23:Ck0 23)
       else
        have e:m=24:=by omega
        e ▸ (ev0_24:Ck0 24)
  else
   if h37:m<37 then
    if h31:m<31 then
     if h28:m<28 then
      if h26:m<26 then
       have e:m=25:=by omega
       e ▸ (ev0_25:Ck0 25)
      else
       if h27:m<27 then
        have e:m=26:=by omega
        e ▸ (ev0_26:Ck0 26)
       else
        have e:m=27:=by omega
        e ▸ (ev0_27:Ck0 27)
     else
      if h29:m<29 then
       have e:m=28:=by omega
       e ▸ (ev0_28:Ck0 28)
      else
       if h30:m<30 then
        have e:m=29:=by omega
        e ▸ (ev0_29:Ck0 29)
       else
        have e:m=30:=by omega
        e ▸ (ev0_30:Ck0 30)
    else
     if h34:m<34 then
      if h32:m<32 then
       have e:m=31:=by omega
       e ▸ (ev0_31:Ck0 31)
      else
       if h33:m<33 then
        have e:m=32:=by omega
        e ▸ (ev0_32:Ck0 32)
       else
        have e:m=33:=by omega
        e ▸ (ev0_33:Ck0 33)
     else
      if h35:m<35 then
       have e:m=34:=by omega
       e ▸ (ev0_34:Ck0 34)
      else
       if h36:m<36 then
        have e:m=35:=by omega
        e ▸ (ev0_35:Ck0 35)
       else
        have e:m=36:=by omega
        e ▸ (ev0_36:Ck0 36)
   else
    if h43:m<43 then
     if h40:m<40 then
      if h38:m<38 then
       have e:m=37:=by omega
       e ▸ (ev0_37:Ck0 37)
      else
       if h39:m<39 then
        have e:m=38:=by omega
        e ▸ (ev0_38:Ck0 38)
       else
        have e:m=39:=by omega
        e ▸ (ev0_39:Ck0 39)
     else
      if h41:m<41 then
       have e:m=40:=by omega
       e ▸ (ev0_40:Ck0 40)
      else
       if h42:m<42 then
        have e:m=41:=by omega
        e ▸ (ev0_41:Ck0 41)
       else
        have e:m=42:=by omega
        e ▸ (ev0_42:Ck0 42)
    else
     if h46:m<46 then
      if h44:m<44 then
       have e:m=43:=by omega
       e ▸ (ev0_43:Ck0 43)
      else
       if h45:m<45 then
        have e:m=44:=by omega
        e ▸ (ev0_44:Ck0 44)
       else
        have e:m=45:=by omega
        e ▸ (ev0_45:Ck0 45)
     else
      if h48:m<48 then
       if h47:m<47 then
        have e:m=46:=by omega
        e ▸ (ev0_46:Ck0 46)
       else
        have e:m=47:=by omega
        e ▸ (ev0_47:Ck0 47)
      else
       if h49:m<49 then
        have e:m=48:=by omega
        e ▸ (ev0_48:Ck0 48)
       else
        have e:m=49:=by omega
        e ▸ (ev0_49:Ck0 49)
 else
  if h75:m<75 then
   if h62:m<62 then
    if h56:m<56 then
     if h53:m<53 then
      if h51:m<51 then
       have e:m=50:=by omega
       e ▸ (ev0_50:Ck0 50)
      else
       if h52:m<52 then
        have e:m=51:=by omega
        e ▸ (ev0_51:Ck0 51)
       else
        have e:m=52:=by omega
        e ▸ (ev0_52:Ck0 52)
     else
      if h54:m<54 then
       have e:m=53:=by omega
       e ▸ (ev0_53:Ck0 53)
      else
       if h55:m<55 then
        have e:m=54:=by omega
        e ▸ (ev0_54:Ck0 54)
       else
        have e:m=55:=by omega
        e ▸ (ev0_55:Ck0 55)
    else
     if h59:m<59 then
      if h57:m<57 then
       have e:m=56:=by omega
       e ▸ (ev0_56:Ck0 56)
      else
       if h58:m<58 then
        have e:m=57:=by omega
        e ▸ (ev0_57:Ck0 57)
       else
        have e:m=58:=by omega
        e ▸ (ev0_58:Ck0 58)
     else
      if h60:m<60 then
       have e:m=59:=by omega
       e ▸ (ev0_59:Ck0 59)
      else
       if h61:m<61 then
        have e:m=60:=by omega
        e ▸ (ev0_60:Ck0 60)
       else
        have e:m=61:=by omega
        e ▸ (ev0_61:Ck0 61)
   else
    if h68:m<68 then
     if h65:m<65 then
      if h63:m<63 then
       have e:m=62:=by omega
       e ▸ (ev0_62:Ck0 62)
      else
       if h64:m<64 then
        have e:m=63:=by omega
        e ▸ (ev0_63:Ck0 63)
       else
        have e:m=64:=by omega
        e ▸ (ev0_64:Ck0 64)
     else
      if h66:m<66 then
       have e:m=65:=by omega
       e ▸ (ev0_65:Ck0 65)
      else
       if h67:m<67 then
        have e:m=66:=by omega
        e ▸ (ev0_66:Ck0 66)
       else
        have e:m=67:=by omega
        e ▸ (ev0_67:Ck0 67)
    else
     if h71:m<71 then
      if h69:m<69 then
       have e:m=68:=by omega
       e ▸ (ev0_68:Ck0 68)
      else
       if h70:m<70 then
        have e:m=69:=by omega
        e ▸ (ev0_69:Ck0 69)
       else
        have e:m=70:=by omega
        e ▸ (ev0_70:Ck0 70)
     else
      if h73:m<73 then
       if h72:m<72 then
        have e:m=71:=by omega
        e ▸ (ev0_71:Ck0 71)
       else
        have e:m=72:=by omega
        e ▸ (ev0_72:Ck0 72)
      else
       if h74:m<74 then
        have e:m=73:=by omega
        e ▸ (ev0_73:Ck0 73)
       else
        have e:m=74:=by omega
        e ▸ (ev0_74:Ck0 74)
  else
   if h87:m<87 then
    if h81:m<81 then
     if h78:m<78 then
      if h76:m<76 then
       have e:m=75:=by omega
       e ▸ (ev0_75:Ck0 75)
      else
       if h77:m<77 then
        have e:m=76:=by omega
        e ▸ (ev0_76:Ck0 76)
       else
        have e:m=77:=by omega
        e ▸ (ev0_77:Ck0 77)
     else
      if h79:m<79 then
       have e:m=78:=by omega
       e ▸ (ev0_78:Ck0 78)
      else
       if h80:m<80 then
        have e:m=79:=by omega
        e ▸ (ev0_79:Ck0 79)
       else
        have e:m=80:=by omega
        e ▸ (ev0_80:Ck0 80)
    else
     if h84:m<84 then
      if h82:m<82 then
       have e:m=81:=by omega
       e ▸ (ev0_81:Ck0 81)
      else
       if h83:m<83 then
        have e:m=82:=by omega
        e ▸ (ev0_82:Ck0 82)
       else
        have e:m=83:=by omega
        e ▸ (ev0_83:Ck0 83)
     else
      if h85:m<85 then
       have e:m=84:=by omega
       e ▸ (ev0_84:Ck0 84)
      else
       if h86:m<86 then
        have e:m=85:=by omega
        e ▸ (ev0_85:Ck0 85)
       else
        have e:m=86:=by omega
        e ▸ (ev0_86:Ck0 86)
   else
    if h93:m<93 then
     if h90:m<90 then
      if h88:m<88 then
       have e:m=87:=by omega
       e ▸ (ev0_87:Ck0 87)
      else
       if h89:m<89 then
        have e:m=88:=by omega
        e ▸ (ev0_88:Ck0 88)
       else
        have e:m=89:=by omega
        e ▸ (ev0_89:Ck0 89)
     else
      if h91:m<91 then
       have e:m=90:=by omega
       e ▸ (ev0_90:Ck0 90)
      else
       if h92:m<92 then
        have e:m=91:=by omega
        e ▸ (ev0_91:Ck0 91)
       else
        have e:m=92:=by omega
        e ▸ (ev0_92:Ck0 92)
    else
     if h96:m<96 then
      if h94:m<94 then
       have e:m=93:=by omega
       e ▸ (ev0_93:Ck0 93)
      else
       if h95:m<95 then
        have e:m=94:=by omega
        e ▸ (ev0_94:Ck0 94)
       else
        have e:m=95:=by omega
        e ▸ (ev0_95:Ck0 95)
     else
      if h98:m<98 then
       if h97:m<97 then
        have e:m=96:=by omega
        e ▸ (ev0_96:Ck0 96)
       else
        have e:m=97:=by omega
        e ▸ (ev0_97:Ck0 97)
      else
       if h99:m<99 then
        have e:m=98:=by omega
        e ▸ (ev0_98:Ck0 98)
       else
        have e:m=99:=by omega
        e ▸ (ev0_99:Ck0 99)
def Ck1 (m:Nat):Prop:=chkB1 pk1 rk1 1 m (g0 45)=true
theorem allk1 (m:Nat) (h:m<100):Ck1 m:=
 if h50:m<50 then
  if h25:m<25 then
   if h12:m<12 then
    if h6:m<6 then
     if h3:m<3 then
      if h1:m<1 then
       have e:m=0:=by omega
       e ▸ (ev1_0:Ck1 0)
      else
       if h2:m<2 then
        have e:m=1:=by omega
        e ▸ (ev1_1:Ck1 1)
       else
        have e:m=2:=by omega
        e ▸ (ev1_2:Ck1 2)
     else
      if h4:m<4 then
       have e:m=3:=by omega
       e ▸ (ev1_3:Ck1 3)
      else
       if h5:m<5 then
        have e:m=4:=by omega
        e ▸ (ev1_4:Ck1 4)
       else
        have e:m=5:=by omega
        e ▸ (ev1_5:Ck1 5)
    else
     if h9:m<9 then
      if h7:m<7 then
       have e:m=6:=by omega
       e ▸ (ev1_6:Ck1 6)
      else
       if h8:m<8 then
        have e:m=7:=by omega
        e ▸ (ev1_7:Ck1 7)
       else
        have e:m=8:=by omega
        e ▸ (ev1_8:Ck1 8)
     else
      if h10:m<10 then
       have e:m=9:=by omega
       e ▸ (ev1_9:Ck1 9)
      else
       if h11:m<11 then
        have e:m=10:=by omega
        e ▸ (ev1_10:Ck1 10)
       else
        have e:m=11:=by omega
        e ▸ (ev1_11:Ck1 11)
   else
    if h18:m<18 then
     if h15:m<15 then
      if h13:m<13 then
       have e:m=12:=by omega
       e ▸ (ev1_12:Ck1 12)
      else
       if h14:m<14 then
        have e:m=13:=by omega
        e ▸ (ev1_13:Ck1 13)
       else
        have e:m=14:=by omega
        e ▸ (ev1_14:Ck1 14)
     else
      if h16:m<16 then
       have e:m=15:=by omega
       e ▸ (ev1_15:Ck1 15)
      else
       if h17:m<17 then
        have e:m=16:=by omega
        e ▸ (ev1_16:Ck1 16)
       else
        have e:m=17:=by omega
        e ▸ (ev1_17:Ck1 17)
    else
     if h21:m<21 then
      if h19:m<19 then
       have e:m=18:=by omega
       e ▸ (ev1_18:Ck1 18)
      else
       if h20:m<20 then
        have e:m=19:=by omega
        e ▸ (ev1_19:Ck1 19)
       else
        have e:m=20:=by omega
        e ▸ (ev1_20:Ck1 20)
     else
      if h23:m<23 then
       if h22:m<22 then
        have e:m=21:=by omega
        e ▸ (ev1_21:Ck1 21)
       else
        have e:m=22:=by omega
        e ▸ (ev1_22:Ck1 22)
      else
       if h24:m<24 then
        have e:m=23:=by omega
        e ▸ (ev1_23:Ck1 23)
       else
        have e:m=24:=by omega
        e ▸ (ev1_24:Ck1 24)
  else
   if h37:m<37 then
    if h31:m<31 then
     if h28:m<28 then
      if h26:m<26 then
       have e:m=25:=by omega
       e ▸ (ev1_25:Ck1 25)
      else
       if h27:m<27 then
        have e:m=26:=by omega
        e ▸ (ev1_26:Ck1 26)
       else
        have e:m=27:=by omega
        e ▸ (ev1_27:Ck1 27)
     else
      if h29:m<29 then
       have e:m=28:=by omega
       e ▸ (ev1_28:Ck1 28)
      else
       if h30:m<30 then
        have e:m=29:=by omega
        e ▸ (ev1_29:Ck1 29)
       else
        have e:m=30:=by omega
        e ▸ (ev1_30:Ck1 30)
    else
     if h34:m<34 then
      if h32:m<32 then
       have e:m=31:=by omega
       e ▸ (ev1_31:Ck1 31)
      else
       if h33:m<33 then
        have e:m=32:=by omega
        e ▸ (ev1_32:Ck1 32)
       else
        have e:m=33:=by omega
        e ▸ (ev1_33:Ck1 33)
     else
      if h35:m<35 then
       have e:m=34:=by omega
       e ▸ (ev1_34:Ck1 34)
      else
       if h36:m<36 then
        have e:m=35:=by omega
        e ▸ (ev1_35:Ck1 35)
       else
        have e:m=36:=by omega
        e ▸ (ev1_36:Ck1 36)
   else
    if h43:m<43 then
     if h40:m<40 then
      if h38:m<38 then
       have e:m=37:=by omega
       e ▸ (ev1_37:Ck1 37)
      else
       if h39:m<39 then
        have e:m=38:=by omega
        e ▸ (ev1_38:Ck1 38)
       else
        have e:m=39:=by omega
        e ▸ (ev1_39:Ck1 39)
     else
      if h41:m<41 then
       have e:m=40:=by omega
       e ▸ (ev1_40:Ck1 40)
      else
       if h42:m<42 then
        have e:m=41:=by omega
        e ▸ (ev1_41:Ck1 41)
       else
        have e:m=42:=by omega
        e ▸ (ev1_42:Ck1 42)
    else
     if h46:m<46 then
      if h44:m<44 then
       have e:m=43:=by omega
       e ▸ (ev1_43:Ck1 43)
      else
       if h45:m<45 then
        have e:m=44:=by omega
        e ▸ (ev1_44:Ck1 44)
       else
        have e:m=45:=by omega
        e ▸ (ev1_45:Ck1 45)
     else
      if h48:m<48 then
       if h47:m<47 then
        have e:m=46:=by omega
        e ▸ (ev1_46:Ck1 46)
       else
        have e:m=47:=by omega
        e ▸ (ev1_47:Ck1 47)
      else
       if h49:m<49 then
        have e:m=48:=by omega
        e ▸ (ev1_48:Ck1 48)
       else
        have e:m=49:=by omega
        e ▸ (ev1_49:Ck1 49)
 else
  if h75:m<75 then
   if h62:m<62 then
    if h56:m<56 then
     if h53:m<53 then
      if h51:m<51 then
       have e:m=50:=by omega
       e ▸ (ev1_50:Ck1 50)
      else
       if h52:m<52 then
        have e:m=51:=by omega
        e ▸ (ev1_51:Ck1 51)
       else
        have e:m=52:=by omega
        e ▸ (ev1_52:Ck1 52)
     else
      if h54:m<54 then
       have e:m=53:=by omega
       e ▸ (ev1_53:Ck1 53)
      else
       if h55:m<55 then
        have e:m=54:=by omega
        e ▸ (ev1_54:Ck1 54)
       else
        have e:m=55:=by omega
        e ▸ (ev1_55:Ck1 55)
    else
     if h59:m<59 then
      if h57:m<57 then
       have e:m=56:=by omega
       e ▸ (ev1_56:Ck1 56)
      else
       if h58:m<58 then
        have e:m=57:=by omega
        e ▸ (ev1_57:Ck1 57)
       else
        have e:m=58:=by omega
        e ▸ (ev1_58:Ck1 58)
     else
      if h60:m<60 then
       have e:m=59:=by omega
       e ▸ (ev1_59:Ck1 59)
      else
       if h61:m<61 then
        have e:m=60:=by omega
        e ▸ (ev1_60:Ck1 60)
       else
        have e:m=61:=by omega
        e ▸ (ev1_61:Ck1 61)
   else
    if h68:m<68 then
     if h65:m<65 then
      if h63:m<63 then
       have e:m=62:=by omega
       e ▸ (ev1_62:Ck1 62)
      else
       if h64:m<64 then
        have e:m=63:=by omega
        e ▸ (ev1_63:Ck1 63)
       else
        have e:m=64:=by omega
        e ▸ (ev1_64:Ck1 64)
     else
      if h66:m<66 then
       have e:m=65:=by omega
       e ▸ (ev1_65:Ck1 65)
      else
       if h67:m<67 then
        have e:m=66:=by omega
        e ▸ (ev1_66:Ck1 66)
       else
        have e:m=67:=by omega
        e ▸ (ev1_67:Ck1 67)
    else
     if h71:m<71 then
      if h69:m<69 then
       have e:m=68:=by omega
       e ▸ (ev1_68:Ck1 68)
      else
       if h70:m<70 then
        have e:m=69:=by omega
        e ▸ (ev1_69:Ck1 69)
       else
        have e:m=70:=by omega
        e ▸ (ev1_70:Ck1 70)
     else
      if h73:m<73 then
       if h72:m<72 then
        have e:m=71:=by omega
        e ▸ (ev1_71:Ck1 71)
       else
        have e:m=72:=by omega
        e ▸ (ev1_72:Ck1 72)
      else
       if h74:m<74 then
        have e:m=73:=by omega
        e ▸ (ev1_73:Ck1 73)
       else
        have e:m=74:=by omega
        e ▸ (ev1_74:Ck1 74)
  else
   if h87:m<87 then
    if h81:m<81 then
     if h78:m<78 then
      if h76:m<76 then
       have e:m=75:=by omega
       e ▸ (ev1_75:Ck1 75)
      else
       if h77:m<77 then
        have e:m=76:=by omega
        e ▸ (ev1_76:Ck1 76)
       else
        have e:m=77:=by omega
        e ▸ (ev1_77:Ck1 77)
     else
      if h79:m<79 then
       have e:m=78:=by omega
       e ▸ (ev1_78:Ck1 78)
      else
       if h80:m<80 then
        have e:m=79:=by omega
        e ▸ (ev1_79:Ck1 79)
       else
        have e:m=80:=by omega
        e ▸ (ev1_80:Ck1 80)
    else
     if h84:m<84 then
      if h82:m<82 then
       have e:m=81:=by omega
       e ▸ (ev1_81:Ck1 81)
      else
       if h83:m<83 then
        have e:m=82:=by omega
        e ▸ (ev1_82:Ck1 82)
       else
        have e:m=83:=by omega
        e ▸ (ev1_83:Ck1 83)
     else
      if h85:m<85 then
       have e:m=84:=by omega
       e ▸ (ev1_84:Ck1 84)
      else
       if h86:m<86 then
        have e:m=85:=by omega
        e ▸ (ev1_85:Ck1 85)
       else
        have e:m=86:=by omega
        e ▸ (ev1_86:Ck1 86)
   else
    if h93:m<93 then
     if h90:m<90 then
      if h88:m<88 then
       have e:m=87:=by omega
       e ▸ (ev1_87:Ck1 87)
      else
       if h89:m<89 then
        have e:m=88:=by omega
        e ▸ (ev1_88:Ck1 88)
       else
        have e:m=89:=by omega
        e ▸ (ev1_89:Ck1 89)
     else
      if h91:m<91 then
       have e:m=90:=by omega
       e ▸ (ev1_90:Ck1 90)
      else
       if h92:m<92 then
        have e:m=91:=by omega
        e ▸ (ev1_91:Ck1 91)
       else
        have e:m=92:=by omega
        e ▸ (ev1_92:Ck1 92)
    else
     if h96:m<96 then
      if h94:m<94 then
       have e:m=93:=by omega
       e ▸ (ev1_93:Ck1 93)
      else
       if h95:m<95 then
        have e:m=94:=by omega
        e ▸ (ev1_94:Ck1 94)
       else
        have e:m=95:=by omega
        e ▸ (ev1_95:Ck1 95)
     else
      if h98:m<98 then
       if h97:m<97 then
        have e:m=96:=by omega
        e ▸ (ev1_96:Ck1 96)
       else
        have e:m=97:=by omega
        e ▸ (ev1_97:Ck1 97)
      else
       if h99:m<99 then
        have e:m=98:=by omega
        e ▸ (ev1_98:Ck1 98)
       else
        have e:m=99:=by omega
        e ▸ (ev1_99:Ck1 99)
theorem law {W0 : World} (hW : WOK W0) {v : Value} {bs : List UInt8} (hi : Inp W0 v bs) : Calls Tryz.prog 10 #[v] W0 (fun e w' => e = .returned (.bool true) ∧ Agree W0 w') := by
  letI : Nu := ⟨atV bs 0 % 100, 0, 0, v⟩
  have hlt : atV bs 0 % 100 < 100 := Nat.mod_lt _ (by decide)
  have hv : ∀ i, Nu.val i = vl (atV bs 0 % 100) i := fun i => by
    show i % 10 * (atV bs 0 % 100) + i / 10 % 10 * 0 + i / 100 % 10 * 0 + i / 1000 = i % 10 * (atV bs 0 % 100) + i / 1000
    omega
  have e1 : Nu.val 1 = atV bs 0 % 100 := by rw [hv]; show 1 % 10 * (atV bs 0 % 100) + 1 / 1000 = _; omega
  have hI : ∀ k, CallOK Tryz.prog W0 k → FnAns Tryz.prog W0 46 (fItoa k) := fun _ _ => c_Itoa hW
  by_cases hn : bs.length ≤ 1048576
  · have hB : ∃ cs el fz, W0.heap[1]? = some (.cells cs el fz) := let ⟨_, _, h⟩ := hW.pow; ⟨_, _, _, h⟩
    have cG : CallOK Tryz.prog W0 g0 := run_ok hI (fun _ hk => a198 hk) (fun _ _ => noF_ans) (fun _ hk => a45 hk) (fun _ hk => a12 hk) 100
    have W := kw_of (p := pw) cG evle_w evf_w (by kernel_rfl) evw_w
    have hK := kbS_of (p := pk0) hv cG evk0 (allk0 _ hlt)
    have hK1 := kbS_of (p := pk1) hv cG evk1 (allk1 _ hlt)
    have hA : ∀ k, CallOK Tryz.prog W0 k → FnAns Tryz.prog W0 16 (fAt atL k) := fun _ _ => fAt_ans ⟨_, Tryz.func16, by kernel_rfl, by kernel_rfl⟩ fun q x hm => by
      simp only [atL, List.mem_cons, Prod.mk.injEq, List.not_mem_nil, or_false] at hm
      rcases hm with ⟨rfl, rfl⟩
      exact ⟨atV bs 0, fun α => .ref (.raw (by rw [e1])), fun w A => at_run hi hn hB (by decide) w A⟩
    have cL : CallOK Tryz.prog W0 (run fItoa f198 (fAt atL) (fKB pk0 rho0 (fKB pk1 rho1 noF)) (fW pw noF) 100) := run_ok hI (fun _ hk => a198 hk) hA (fun _ _ => fKB_ans hK (fKB_ans hK1 noF_ans)) (fun _ _ => fW_ans W noF_ans) 100
    exact (law_in cL hi (.inl ⟨rfl, hn⟩) evl).2
  · have cB : CallOK Tryz.prog W0 (run fItoa f198 noF noF noF 100) := run_ok hI (fun _ hk => a198 hk) (fun _ _ => noF_ans) (fun _ _ => noF_ans) (fun _ _ => noF_ans) 100
    exact (law_in cB hi (.inr ⟨rfl, by omega⟩) evB).2
end Go.X1
