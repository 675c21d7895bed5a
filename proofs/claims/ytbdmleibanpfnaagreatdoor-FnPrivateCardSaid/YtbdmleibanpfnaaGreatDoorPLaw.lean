/-
  The law, from what is known.
-/
import Derived.Test.YtbdmleibanpfnaaGreatDoorNAt
import Derived.Test.YtbdmleibanpfnaaGreatDoorLibE
import Derived.Test.YtbdmleibanpfnaaGreatDoorPL
import Derived.Test.YtbdmleibanpfnaaGreatDoorPT
import Derived.Test.YtbdmleibanpfnaaGreatDoorPR0
import Derived.Test.YtbdmleibanpfnaaGreatDoorPR1
import Derived.Test.YtbdmleibanpfnaaGreatDoorPR2
import Derived.Test.YtbdmleibanpfnaaGreatDoorPR3
import Derived.Test.YtbdmleibanpfnaaGreatDoorPR4
import Derived.Test.YtbdmleibanpfnaaGreatDoorPR5
set_option linter.all false
set_option linter.all false
set_option maxRecDepth 100000
namespace Go.X1
open Go.Proofs
def C0 (m:Nat):Prop:=chkW pp0 (rh rl0 63) 23 m (g0 47)=true
theorem all0 (m:Nat) (h:m<90):C0 m:=
 if h45:m<45 then
  if h22:m<22 then
   if h11:m<11 then
    if h5:m<5 then
     if h2:m<2 then
      if h1:m<1 then
       have e:m=0:=by omega
       e ▸ (ev0_0:C0 0)
      else
       have e:m=1:=by omega
       e ▸ (ev0_1:C0 1)
     else
      if h3:m<3 then
       have e:m=2:=by omega
       e ▸ (ev0_2:C0 2)
      else
       if h4:m<4 then
        have e:m=3:=by omega
        e ▸ (ev0_3:C0 3)
       else
        have e:m=4:=by omega
        e ▸ (ev0_4:C0 4)
    else
     if h8:m<8 then
      if h6:m<6 then
       have e:m=5:=by omega
       e ▸ (ev0_5:C0 5)
      else
       if h7:m<7 then
        have e:m=6:=by omega
        e ▸ (ev0_6:C0 6)
       else
        have e:m=7:=by omega
        e ▸ (ev0_7:C0 7)
     else
      if h9:m<9 then
       have e:m=8:=by omega
       e ▸ (ev0_8:C0 8)
      else
       if h10:m<10 then
        have e:m=9:=by omega
        e ▸ (ev0_9:C0 9)
       else
        have e:m=10:=by omega
        e ▸ (ev0_10:C0 10)
   else
    if h16:m<16 then
     if h13:m<13 then
      if h12:m<12 then
       have e:m=11:=by omega
       e ▸ (ev0_11:C0 11)
      else
       have e:m=12:=by omega
       e ▸ (ev0_12:C0 12)
     else
      if h14:m<14 then
       have e:m=13:=by omega
       e ▸ (ev0_13:C0 13)
      else
       if h15:m<15 then
        have e:m=14:=by omega
        e ▸ (ev0_14:C0 14)
       else
        have e:m=15:=by omega
        e ▸ (ev0_15:C0 15)
    else
     if h19:m<19 then
      if h17:m<17 then
       have e:m=16:=by omega
       e ▸ (ev0_16:C0 16)
      else
       if h18:m<18 then
        have e:m=17:=by omega
        e ▸ (ev0_17:C0 17)
       else
        have e:m=18:=by omega
        e ▸ (ev0_18:C0 18)
     else
      if h20:m<20 then
       have e:m=19:=by omega
       e ▸ (ev0_19:C0 19)
      else
       if h21:m<21 then
        have e:m=20:=by omega
        e ▸ (ev0_20:C0 20)
       else
        have e:m=21:=by omega
        e ▸ (ev0_21:C0 21)
  else
   if h33:m<33 then
    if h27:m<27 then
     if h24:m<24 then
      if h23:m<23 then
       have e:m=22:=by omega
       e ▸ (ev0_22:C0 22)
      else
       have e:m=23:=by omega
       e ▸ (ev0_23:C0 23)
     else
      if h25:m<25 then
       have e:m=24:=by omega
       e ▸ (ev0_24:C0 24)
      else
       if h26:m<26 then
        have e:m=25:=by omega
        e ▸ (ev0_25:C0 25)
       else
        have e:m=26:=by omega
        e ▸ (ev0_26:C0 26)
    else
     if h30:m<30 then
      if h28:m<28 then
       have e:m=27:=by omega
       e ▸ (ev0_27:C0 27)
      else
       if h29:m<29 then
        have e:m=28:=by omega
        e ▸ (ev0_28:C0 28)
       else
        have e:m=29:=by omega
        e ▸ (ev0_29:C0 29)
     else
      if h31:m<31 then
       have e:m=30:=by omega
       e ▸ (ev0_30:C0 30)
      else
       if h32:m<32 then
        have e:m=31:=by omega
        e ▸ (ev0_31:C0 31)
       else
        have e:m=32:=by omega
        e ▸ (ev0_32:C0 32)
   else
    if h39:m<39 then
     if h36:m<36 then
      if h34:m<34 then
       have e:m=33:=by omega
       e ▸ (ev0_33:C0 33)
      else
       if h35:m<35 then
        have e:m=34:=by omega
        e ▸ (ev0_34:C0 34)
       else
        have e:m=35:=by omega
        e ▸ (ev0_35:C0 35)
     else
      if h37:m<37 then
       have e:m=36:=by omega
       e ▸ (ev0_36:C0 36)
      else
       if h38:m<38 then
        have e:m=37:=by omega
        e ▸ (ev0_37:C0 37)
       else
        have e:m=38:=by omega
        e ▸ (ev0_38:C0 38)
    else
     if h42:m<42 then
      if h40:m<40 then
       have e:m=39:=by omega
       e ▸ (ev0_39:C0 39)
      else
       if h41:m<41 then
        have e:m=40:=by omega
        e ▸ (ev0_40:C0 40)
       else
        have e:m=41:=by omega
        e ▸ (ev0_41:C0 41)
     else
      if h43:m<43 then
       have e:m=42:=by omega
       e ▸ (ev0_42:C0 42)
      else
       if h44:m<44 then
        have e:m=43:=by omega
        e ▸ (ev0_43:C0 43)
       else
        have e:m=44:=by omega
        e ▸ (ev0_44:C0 44)
 else
  if h67:m<67 then
   if h56:m<56 then
    if h50:m<50 then
     if h47:m<47 then
      if h46:m<46 then
       have e:m=45:=by omega
       e ▸ (ev0_45:C0 45)
      else
       have e:m=46:=by omega
       e ▸ (ev0_46:C0 46)
     else
      if h48:m<48 then
       have e:m=47:=by omega
       e ▸ (ev0_47:C0 47)
      else
       if h49:m<49 then
        have e:m=48:=by omega
        e ▸ (ev0_48:C0 48)
       else
        have e:m=49:=by omega
        e ▸ (ev0_49:C0 49)
    else
     if h53:m<53 then
      if h51:m<51 then
       have e:m=50:=by omega
       e ▸ (ev0_50:C0 50)
      else
       if h52:m<52 then
        have e:m=51:=by omega
        e ▸ (ev0_51:C0 51)
       else
        have e:m=52:=by omega
        e ▸ (ev0_52:C0 52)
     else
      if h54:m<54 then
       have e:m=53:=by omega
       e ▸ (ev0_53:C0 53)
      else
       if h55:m<55 then
        have e:m=54:=by omega
        e ▸ (ev0_54:C0 54)
       else
        have e:m=55:=by omega
        e ▸ (ev0_55:C0 55)
   else
    if h61:m<61 then
     if h58:m<58 then
      if h57:m<57 then
       have e:m=56:=by omega
       e ▸ (ev0_56:C0 56)
      else
       have e:m=57:=by omega
       e ▸ (ev0_57:C0 57)
     else
      if h59:m<59 then
       have e:m=58:=by omega
       e ▸ (ev0_58:C0 58)
      else
       if h60:m<60 then
        have e:m=59:=by omega
        e ▸ (ev0_59:C0 59)
       else
        have e:m=60:=by omega
        e ▸ (ev0_60:C0 60)
    else
     if h64:m<64 then
      if h62:m<62 then
       have e:m=61:=by omega
       e ▸ (ev0_61:C0 61)
      else
       if h63:m<63 then
        have e:m=62:=by omega
        e ▸ (ev0_62:C0 62)
       else
        have e:m=63:=by omega
        e ▸ (ev0_63:C0 63)
     else
      if h65:m<65 then
       have e:m=64:=by omega
       e ▸ (ev0_64:C0 64)
      else
       if h66:m<66 then
        have e:m=65:=by omega
        e ▸ (ev0_65:C0 65)
       else
        have e:m=66:=by omega
        e ▸ (ev0_66:C0 66)
  else
   if h78:m<78 then
    if h72:m<72 then
     if h69:m<69 then
      if h68:m<68 then
       have e:m=67:=by omega
       e ▸ (ev0_67:C0 67)
      else
       have e:m=68:=by omega
       e ▸ (ev0_68:C0 68)
     else
      if h70:m<70 then
       have e:m=69:=by omega
       e ▸ (ev0_69:C0 69)
      else
       if h71:m<71 then
        have e:m=70:=by omega
        e ▸ (ev0_70:C0 70)
       else
        have e:m=71:=by omega
        e ▸ (ev0_71:C0 71)
    else
     if h75:m<75 then
      if h73:m<73 then
       have e:m=72:=by omega
       e ▸ (ev0_72:C0 72)
      else
       if h74:m<74 then
        have e:m=73:=by omega
        e ▸ (ev0_73:C0 73)
       else
        have e:m=74:=by omega
        e ▸ (ev0_74:C0 74)
     else
      if h76:m<76 then
       have e:m=75:=by omega
       e ▸ (ev0_75:C0 75)
      else
       if h77:m<77 then
        have e:m=76:=by omega
        e ▸ (ev0_76:C0 76)
       else
        have e:m=77:=by omega
        e ▸ (ev0_77:C0 77)
   else
    if h84:m<84 then
     if h81:m<81 then
      if h79:m<79 then
       have e:m=78:=by omega
       e ▸ (ev0_78:C0 78)
      else
       if h80:m<80 then
        have e:m=79:=by omega
        e ▸ (ev0_79:C0 79)
       else
        have e:m=80:=by omega
        e ▸ (ev0_80:C0 80)
     else
      if h82:m<82 then
       have e:m=81:=by omega
       e ▸ (ev0_81:C0 81)
      else
       if h83:m<83 then
        have e:m=82:=by omega
        e ▸ (ev0_82:C0 82)
       else
        have e:m=83:=by omega
        e ▸ (ev0_83:C0 83)
    else
     if h87:m<87 then
      if h85:m<85 then
       have e:m=84:=by omega
       e ▸ (ev0_84:C0 84)
      else
       if h86:m<86 then
        have e:m=85:=by omega
        e ▸ (ev0_85:C0 85)
       else
        have e:m=86:=by omega
        e ▸ (ev0_86:C0 86)
     else
      if h88:m<88 then
       have e:m=87:=by omega
       e ▸ (ev0_87:C0 87)
      else
       if h89:m<89 then
        have e:m=88:=by omega
        e ▸ (ev0_88:C0 88)
       else
        have e:m=89:=by omega
        e ▸ (ev0_89:C0 89)
def C1 (m:Nat):Prop:=chkW pp1 (rh rl1 4095) 15 m (g0 47)=true
theorem all1 (m:Nat) (h:m<90):C1 m:=
 if h45:m<45 then
  if h22:m<22 then
   if h11:m<11 then
    if h5:m<5 then
     if h2:m<2 then
      if h1:m<1 then
       have e:m=0:=by omega
       e ▸ (ev1_0:C1 0)
      else
       have e:m=1:=by omega
       e ▸ (ev1_1:C1 1)
     else
      if h3:m<3 then
       have e:m=2:=by omega
       e ▸ (ev1_2:C1 2)
      else
       if h4:m<4 then
        have e:m=3:=by omega
        e ▸ (ev1_3:C1 3)
       else
        have e:m=4:=by omega
        e ▸ (ev1_4:C1 4)
    else
     if h8:m<8 then
      if h6:m<6 then
       have e:m=5:=by omega
       e ▸ (ev1_5:C1 5)
      else
       if h7:m<7 then
        have e:m=6:=by omega
        e ▸ (ev1_6:C1 6)
       else
        have e:m=7:=by omega
        e ▸ (ev1_7:C1 7)
     else
      if h9:m<9 then
       have e:m=8:=by omega
       e ▸ (ev1_8:C1 8)
      else
       if h10:m<10 then
        have e:m=9:=by omega
        e ▸ (ev1_9:C1 9)
       else
        have e:m=10:=by omega
        e ▸ (ev1_10:C1 10)
   else
    if h16:m<16 then
     if h13:m<13 then
      if h12:m<12 then
       have e:m=11:=by omega
       e ▸ (ev1_11:C1 11)
      else
       have e:m=12:=by omega
       e ▸ (ev1_12:C1 12)
     else
      if h14:m<14 then
       have e:m=13:=by omega
       e ▸ (ev1_13:C1 13)
      else
       if h15:m<15 then
        have e:m=14:=by omega
        e ▸ (ev1_14:C1 14)
       else
        have e:m=15:=by omega
        e ▸ (ev1_15:C1 15)
    else
     if h19:m<19 then
      if h17:m<17 then
       have e:m=16:=by omega
       e ▸ (ev1_16:C1 16)
      else
       if h18:m<18 then
        have e:m=17:=by omega
        e ▸ (ev1_17:C1 17)
       else
        have e:m=18:=by omega
        e ▸ (ev1_18:C1 18)
     else
      if h20:m<20 then
       have e:m=19:=by omega
       e ▸ (ev1_19:C1 19)
      else
       if h21:m<21 then
        have e:m=20:=by omega
        e ▸ (ev1_20:C1 20)
       else
        have e:m=21:=by omega
        e ▸ (ev1_21:C1 21)
  else
   if h33:m<33 then
    if h27:m<27 then
     if h24:m<24 then
      if h23:m<23 then
       have e:m=22:=by omega
       e ▸ (ev1_22:C1 22)
      else
       have e:m=23:=by omega
       e ▸ (ev1_23:C1 23)
     else
      if h25:m<25 then
       have e:m=24:=by omega
       e ▸ (ev1_24:C1 24)
      else
       if h26:m<26 then
        have e:m=25:=by omega
        e ▸ (ev1_25:C1 25)
       else
        have e:m=26:=by omega
        e ▸ (ev1_26:C1 26)
    else
     if h30:m<30 then
      if h28:m<28 then
       have e:m=27:=by omega
       e ▸ (ev1_27:C1 27)
      else
       if h29:m<29 then
        have e:m=28:=by omega
        e ▸ (ev1_28:C1 28)
       else
        have e:m=29:=by omega
        e ▸ (ev1_29:C1 29)
     else
      if h31:m<31 then
       have e:m=30:=by omega
       e ▸ (ev1_30:C1 30)
      else
       if h32:m<32 then
        have e:m=31:=by omega
        e ▸ (ev1_31:C1 31)
       else
        have e:m=32:=by omega
        e ▸ (ev1_32:C1 32)
   else
    if h39:m<39 then
     if h36:m<36 then
      if h34:m<34 then
       have e:m=33:=by omega
       e ▸ (ev1_33:C1 33)
      else
       if h35:m<35 then
        have e:m=34:=by omega
        e ▸ (ev1_34:C1 34)
       else
        have e:m=35:=by omega
        e ▸ (ev1_35:C1 35)
     else
      if h37:m<37 then
       have e:m=36:=by omega
       e ▸ (ev1_36:C1 36)
      else
       if h38:m<38 then
        have e:m=37:=by omega
        e ▸ (ev1_37:C1 37)
       else
        have e:m=38:=by omega
        e ▸ (ev1_38:C1 38)
    else
     if h42:m<42 then
      if h40:m<40 then
       have e:m=39:=by omega
       e ▸ (ev1_39:C1 39)
      else
       if h41:m<41 then
        have e:m=40:=by omega
        e ▸ (ev1_40:C1 40)
       else
        have e:m=41:=by omega
        e ▸ (ev1_41:C1 41)
     else
      if h43:m<43 then
       have e:m=42:=by omega
       e ▸ (ev1_42:C1 42)
      else
       if h44:m<44 then
        have e:m=43:=by omega
        e ▸ (ev1_43:C1 43)
       else
        have e:m=44:=by omega
        e ▸ (ev1_44:C1 44)
 else
  if h67:m<67 then
   if h56:m<56 then
    if h50:m<50 then
     if h47:m<47 then
      if h46:m<46 then
       have e:m=45:=by omega
       e ▸ (ev1_45:C1 45)
      else
       have e:m=46:=by omega
       e ▸ (ev1_46:C1 46)
     else
      if h48:m<48 then
       have e:m=47:=by omega
       e ▸ (ev1_47:C1 47)
      else
       if h49:m<49 then
        have e:m=48:=by omega
        e ▸ (ev1_48:C1 48)
       else
        have e:m=49:=by omega
        e ▸ (ev1_49:C1 49)
    else
     if h53:m<53 then
      if h51:m<51 then
       have e:m=50:=by omega
       e ▸ (ev1_50:C1 50)
      else
       if h52:m<52 then
        have e:m=51:=by omega
        e ▸ (ev1_51:C1 51)
       else
        have e:m=52:=by omega
        e ▸ (ev1_52:C1 52)
     else
      if h54:m<54 then
       have e:m=53:=by omega
       e ▸ (ev1_53:C1 53)
      else
       if h55:m<55 then
        have e:m=54:=by omega
        e ▸ (ev1_54:C1 54)
       else
        have e:m=55:=by omega
        e ▸ (ev1_55:C1 55)
   else
    if h61:m<61 then
     if h58:m<58 then
      if h57:m<57 then
       have e:m=56:=by omega
       e ▸ (ev1_56:C1 56)
      else
       have e:m=57:=by omega
       e ▸ (ev1_57:C1 57)
     else
      if h59:m<59 then
       have e:m=58:=by omega
       e ▸ (ev1_58:C1 58)
      else
       if h60:m<60 then
        have e:m=59:=by omega
        e ▸ (ev1_59:C1 59)
       else
        have e:m=60:=by omega
        e ▸ (ev1_60:C1 60)
    else
     if h64:m<64 then
      if h62:m<62 then
       have e:m=61:=by omega
       e ▸ (ev1_61:C1 61)
      else
       if h63:m<63 then
        have e:m=62:=by omega
        e ▸ (ev1_62:C1 62)
       else
        have e:m=63:=by omega
        e ▸ (ev1_63:C1 63)
     else
      if h65:m<65 then
       have e:m=64:=by omega
       e ▸ (ev1_64:C1 64)
      else
       if h66:m<66 then
        have e:m=65:=by omega
        e ▸ (ev1_65:C1 65)
       else
        have e:m=66:=by omega
        e ▸ (ev1_66:C1 66)
  else
   if h78:m<78 then
    if h72:m<72 then
     if h69:m<69 then
      if h68:m<68 then
       have e:m=67:=by omega
       e ▸ (ev1_67:C1 67)
      else
       have e:m=68:=by omega
       e ▸ (ev1_68:C1 68)
     else
      if h70:m<70 then
       have e:m=69:=by omega
       e ▸ (ev1_69:C1 69)
      else
       if h71:m<71 then
        have e:m=70:=by omega
        e ▸ (ev1_70:C1 70)
       else
        have e:m=71:=by omega
        e ▸ (ev1_71:C1 71)
    else
     if h75:m<75 then
      if h73:m<73 then
       have e:m=72:=by omega
       e ▸ (ev1_72:C1 72)
      else
       if h74:m<74 then
        have e:m=73:=by omega
        e ▸ (ev1_73:C1 73)
       else
        have e:m=74:=by omega
        e ▸ (ev1_74:C1 74)
     else
      if h76:m<76 then
       have e:m=75:=by omega
       e ▸ (ev1_75:C1 75)
      else
       if h77:m<77 then
        have e:m=76:=by omega
        e ▸ (ev1_76:C1 76)
       else
        have e:m=77:=by omega
        e ▸ (ev1_77:C1 77)
   else
    if h84:m<84 then
     if h81:m<81 then
      if h79:m<79 then
       have e:m=78:=by omega
       e ▸ (ev1_78:C1 78)
      else
       if h80:m<80 then
        have e:m=79:=by omega
        e ▸ (ev1_79:C1 79)
       else
        have e:m=80:=by omega
        e ▸ (ev1_80:C1 80)
     else
      if h82:m<82 then
       have e:m=81:=by omega
       e ▸ (ev1_81:C1 81)
      else
       if h83:m<83 then
        have e:m=82:=by omega
        e ▸ (ev1_82:C1 82)
       else
        have e:m=83:=by omega
        e ▸ (ev1_83:C1 83)
    else
     if h87:m<87 then
      if h85:m<85 then
       have e:m=84:=by omega
       e ▸ (ev1_84:C1 84)
      else
       if h86:m<86 then
        have e:m=85:=by omega
        e ▸ (ev1_85:C1 85)
       else
        have e:m=86:=by omega
        e ▸ (ev1_86:C1 86)
     else
      if h88:m<88 then
       have e:m=87:=by omega
       e ▸ (ev1_87:C1 87)
      else
       if h89:m<89 then
        have e:m=88:=by omega
        e ▸ (ev1_88:C1 88)
       else
        have e:m=89:=by omega
        e ▸ (ev1_89:C1 89)
section
variable [Nu] {W0 : World}
theorem baseD (hW : WOK W0) {dt : List (Nat × Nat)} (h : DtOK dt) : CallOK Tryz.prog W0 (run (fItoaD dt) f198 noF noF noF noF noF 100) := run_ok (fun _ _ => c_ItoaD hW (fun i d q => (h i d q).1)) (fun _ hk => a198 hk) (fun _ _ => noF_ans) (fun _ _ => noF_ans) (fun _ _ => noF_ans) (fun _ _ => noF_ans) (fun _ _ => noF_ans) 100
theorem text0 (hW : WOK W0) (h1 : Nu.val 1001 ≤ 99) : TextOK Tryz.prog W0 198 tx0 := by
  have all : FnOK Tryz.prog 198 ∧ ∀ (α : Al) (w : World) (args : List Value), HR W0 α w tx0.h → RepL α args tx0.a → Calls Tryz.prog 198 ⟨args⟩ w (fun e w' => ∃ u α' h', e = .returned u ∧ Step W0 α w tx0.h α' w' h' ∧ Rep α' u tx0.x) := by
    rcases itB_two (n := Nu.val 1001) (by omega) with d1 | d1
    · exact text_ans (p := tx0) (dt := [(1001, 1)]) (dt_cons d1 (by omega) dt_nil) (baseD hW (dt_cons d1 (by omega) dt_nil)) (tok := tok0) rfl evT0_1
    · exact text_ans (p := tx0) (dt := [(1001, 2)]) (dt_cons d1 (by omega) dt_nil) (baseD hW (dt_cons d1 (by omega) dt_nil)) (tok := tok0) rfl evT0_2
  exact ⟨all.1, by kernel_rfl, by kernel_rfl, ft_of (by kernel_rfl), (by first | exact .inl rfl | exact .inr (by decide)), all.2⟩
end
theorem law {W0 : World} (hW : WOK W0) {v : Value} {bs : List UInt8} (hi : Inp W0 v bs) : Calls Tryz.prog 4 #[v] W0 (fun e w' => e = .returned (.bool true) ∧ Agree W0 w') := by
  letI : Nu := ⟨atV bs 0 % 90, 0, 0, v⟩
  have hlt : atV bs 0 % 90 < 90 := Nat.mod_lt _ (by decide)
  have hv : ∀ i, Nu.val i = vl (atV bs 0 % 90) i := fun i => by
    show i % 10 * (atV bs 0 % 90) + i / 10 % 10 * 0 + i / 100 % 10 * 0 + i / 1000 = i % 10 * (atV bs 0 % 90) + i / 1000
    omega
  have e1 : Nu.val 1 = atV bs 0 % 90 := by rw [hv]; show 1 % 10 * (atV bs 0 % 90) + 1 / 1000 = _; omega
  have b1001 : Nu.val 1001 ≤ 99 := by rw [hv]; show 1001 % 10 * (atV bs 0 % 90) + 1001 / 1000 ≤ 99; omega
  have hI : ∀ k, CallOK Tryz.prog W0 k → FnAns Tryz.prog W0 46 (fItoa k) := fun _ _ => c_Itoa hW
  have hO : ∀ k, CallOK Tryz.prog W0 k → FnAns Tryz.prog W0 307 (fAtoi k) := fun _ _ => c_Atoi hW
  have hJ : ∀ k, CallOK Tryz.prog W0 k → FnAns Tryz.prog W0 251 (fJoin k) := fun _ _ => c_Join
  by_cases hn : bs.length ≤ 1048576
  · have hB : ∃ cs el fz, W0.heap[1]? = some (.cells cs el fz) := let ⟨_, _, h⟩ := hW.pow; ⟨_, _, _, h⟩
    have cG : CallOK Tryz.prog W0 g0 := run_ok hI (fun _ hk => a198 hk) (fun _ _ => noF_ans) (fun _ hk => a47 hk) (fun _ hk => a102 hk) hO hJ 100
    have W := kw_of (p := pw) cG evle_w evf_w (by kernel_rfl) evw_w
    have V := kw_of (p := pv) cG evle_v evf_v (by kernel_rfl) evw_v
    have P0 := kwS_of (p := pp0) hv cG (all0 _ hlt)
    have P1 := kwS_of (p := pp1) hv cG (all1 _ hlt)
    have hT : ∀ k, CallOK Tryz.prog W0 k → FnAns Tryz.prog W0 198 (fText txL f198 k) := fun _ hk => fText_ans (fun p hp => by
      simp only [txL, List.mem_cons, List.not_mem_nil, or_false] at hp
      rcases hp with rfl
      · exact text0 hW b1001) (a198 hk)
    have hA : ∀ k, CallOK Tryz.prog W0 k → FnAns Tryz.prog W0 16 (fAt atL k) := fun _ _ => fAt_ans ⟨_, Tryz.func16, by kernel_rfl, by kernel_rfl⟩ fun q x hm => by
      simp only [atL, List.mem_cons, Prod.mk.injEq, List.not_mem_nil, or_false] at hm
      rcases hm with ⟨rfl, rfl⟩
      exact ⟨atV bs 0, fun α => .ref (.raw (by rw [e1])), fun w A => at_run hi hn hB (by decide) w A⟩
    have cL : CallOK Tryz.prog W0 (run fItoa (fText txL f198) (fAt atL) (fW pp0 (fW pp1 noF)) (fW pw (fW pv noF)) fAtoi fJoin 100) := run_ok hI hT hA (fun _ _ => fW_ans P0 (fW_ans P1 noF_ans)) (fun _ _ => fW_ans W (fW_ans V noF_ans)) hO hJ 100
    exact (law_in cL hi (.inl ⟨rfl, hn⟩) evl).2
  · have cB : CallOK Tryz.prog W0 (run fItoa f198 noF noF noF noF noF 100) := run_ok hI (fun _ hk => a198 hk) (fun _ _ => noF_ans) (fun _ _ => noF_ans) (fun _ _ => noF_ans) (fun _ _ => noF_ans) (fun _ _ => noF_ans) 100
    exact (law_in cB hi (.inr ⟨rfl, by omega⟩) evB).2
end Go.X1
