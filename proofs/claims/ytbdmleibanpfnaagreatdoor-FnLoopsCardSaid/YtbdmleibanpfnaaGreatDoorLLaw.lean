/-
  The law, from what is known.
-/
import Derived.Test.YtbdmleibanpfnaaGreatDoorNAt
import Derived.Test.YtbdmleibanpfnaaGreatDoorLibE
import Derived.Test.YtbdmleibanpfnaaGreatDoorLL
import Derived.Test.YtbdmleibanpfnaaGreatDoorLT
import Derived.Test.YtbdmleibanpfnaaGreatDoorLR0
import Derived.Test.YtbdmleibanpfnaaGreatDoorLR1
import Derived.Test.YtbdmleibanpfnaaGreatDoorLR2
import Derived.Test.YtbdmleibanpfnaaGreatDoorLR3
import Derived.Test.YtbdmleibanpfnaaGreatDoorLR4
import Derived.Test.YtbdmleibanpfnaaGreatDoorLR5
import Derived.Test.YtbdmleibanpfnaaGreatDoorLR6
import Derived.Test.YtbdmleibanpfnaaGreatDoorLR7
import Derived.Test.YtbdmleibanpfnaaGreatDoorLR8
import Derived.Test.YtbdmleibanpfnaaGreatDoorLR9
import Derived.Test.YtbdmleibanpfnaaGreatDoorLR10
import Derived.Test.YtbdmleibanpfnaaGreatDoorLR11
import Derived.Test.YtbdmleibanpfnaaGreatDoorLR12
import Derived.Test.YtbdmleibanpfnaaGreatDoorLR13
import Derived.Test.YtbdmleibanpfnaaGreatDoorLR14
import Derived.Test.YtbdmleibanpfnaaGreatDoorLR15
import Derived.Test.YtbdmleibanpfnaaGreatDoorLR16
import Derived.Test.YtbdmleibanpfnaaGreatDoorLR17
import Derived.Test.YtbdmleibanpfnaaGreatDoorLR18
import Derived.Test.YtbdmleibanpfnaaGreatDoorLR19
import Derived.Test.YtbdmleibanpfnaaGreatDoorLR20
import Derived.Test.YtbdmleibanpfnaaGreatDoorLR21
import Derived.Test.YtbdmleibanpfnaaGreatDoorLR22
import Derived.Test.YtbdmleibanpfnaaGreatDoorLR23
import Derived.Test.YtbdmleibanpfnaaGreatDoorLR24
set_option linter.all false
set_option linter.all false
set_option maxRecDepth 100000
namespace Go.X1
open Go.Proofs
def Ck (m:Nat):Prop:=chkB1 pk rk 1 m (g0 45)=true
theorem allk (m:Nat) (h:m<200):Ck m:=
 if h100:m<100 then
  if h50:m<50 then
   if h25:m<25 then
    if h12:m<12 then
     if h6:m<6 then
      if h3:m<3 then
       if h1:m<1 then
        have e:m=0:=by omega
        e ▸ (ev_0:Ck 0)
       else
        if h2:m<2 then
         have e:m=1:=by omega
         e ▸ (ev_1:Ck 1)
        else
         have e:m=2:=by omega
         e ▸ (ev_2:Ck 2)
      else
       if h4:m<4 then
        have e:m=3:=by omega
        e ▸ (ev_3:Ck 3)
       else
        if h5:m<5 then
         have e:m=4:=by omega
         e ▸ (ev_4:Ck 4)
        else
         have e:m=5:=by omega
         e ▸ (ev_5:Ck 5)
     else
      if h9:m<9 then
       if h7:m<7 then
        have e:m=6:=by omega
        e ▸ (ev_6:Ck 6)
       else
        if h8:m<8 then
         have e:m=7:=by omega
         e ▸ (ev_7:Ck 7)
        else
         have e:m=8:=by omega
         e ▸ (ev_8:Ck 8)
      else
       if h10:m<10 then
        have e:m=9:=by omega
        e ▸ (ev_9:Ck 9)
       else
        if h11:m<11 then
         have e:m=10:=by omega
         e ▸ (ev_10:Ck 10)
        else
         have e:m=11:=by omega
         e ▸ (ev_11:Ck 11)
    else
     if h18:m<18 then
      if h15:m<15 then
       if h13:m<13 then
        have e:m=12:=by omega
        e ▸ (ev_12:Ck 12)
       else
        if h14:m<14 then
         have e:m=13:=by omega
         e ▸ (ev_13:Ck 13)
        else
         have e:m=14:=by omega
         e ▸ (ev_14:Ck 14)
      else
       if h16:m<16 then
        have e:m=15:=by omega
        e ▸ (ev_15:Ck 15)
       else
        if h17:m<17 then
         have e:m=16:=by omega
         e ▸ (ev_16:Ck 16)
        else
         have e:m=17:=by omega
         e ▸ (ev_17:Ck 17)
     else
      if h21:m<21 then
       if h19:m<19 then
        have e:m=18:=by omega
        e ▸ (ev_18:Ck 18)
       else
        if h20:m<20 then
         have e:m=19:=by omega
         e ▸ (ev_19:Ck 19)
        else
         have e:m=20:=by omega
         e ▸ (ev_20:Ck 20)
      else
       if h23:m<23 then
        if h22:m<22 then
         have e:m=21:=by omega
         e ▸ (ev_21:Ck 21)
        else
         have e:m=22:=by omega
         e ▸ (ev_22:Ck 22)
       else
        if h24:m<24 then
         have e:m=23:=by omega
         e ▸ (ev_23:Ck 23)
        else
         have e:m=24:=by omega
         e ▸ (ev_24:Ck 24)
   else
    if h37:m<37 then
     if h31:m<31 then
      if h28:m<28 then
       if h26:m<26 then
        have e:m=25:=by omega
        e ▸ (ev_25:Ck 25)
       else
        if h27:m<27 then
         have e:m=26:=by omega
         e ▸ (ev_26:Ck 26)
        else
         have e:m=27:=by omega
         e ▸ (ev_27:Ck 27)
      else
       if h29:m<29 then
        have e:m=28:=by omega
        e ▸ (ev_28:Ck 28)
       else
        if h30:m<30 then
         have e:m=29:=by omega
         e ▸ (ev_29:Ck 29)
        else
         have e:m=30:=by omega
         e ▸ (ev_30:Ck 30)
     else
      if h34:m<34 then
       if h32:m<32 then
        have e:m=31:=by omega
        e ▸ (ev_31:Ck 31)
       else
        if h33:m<33 then
         have e:m=32:=by omega
         e ▸ (ev_32:Ck 32)
        else
         have e:m=33:=by omega
         e ▸ (ev_33:Ck 33)
      else
       if h35:m<35 then
        have e:m=34:=by omega
        e ▸ (ev_34:Ck 34)
       else
        if h36:m<36 then
         have e:m=35:=by omega
         e ▸ (ev_35:Ck 35)
        else
         have e:m=36:=by omega
         e ▸ (ev_36:Ck 36)
    else
     if h43:m<43 then
      if h40:m<40 then
       if h38:m<38 then
        have e:m=37:=by omega
        e ▸ (ev_37:Ck 37)
       else
        if h39:m<39 then
         have e:m=38:=by omega
         e ▸ (ev_38:Ck 38)
        else
         have e:m=39:=by omega
         e ▸ (ev_39:Ck 39)
      else
       if h41:m<41 then
        have e:m=40:=by omega
        e ▸ (ev_40:Ck 40)
       else
        if h42:m<42 then
         have e:m=41:=by omega
         e ▸ (ev_41:Ck 41)
        else
         have e:m=42:=by omega
         e ▸ (ev_42:Ck 42)
     else
      if h46:m<46 then
       if h44:m<44 then
        have e:m=43:=by omega
        e ▸ (ev_43:Ck 43)
       else
        if h45:m<45 then
         have e:m=44:=by omega
         e ▸ (ev_44:Ck 44)
        else
         have e:m=45:=by omega
         e ▸ (ev_45:Ck 45)
      else
       if h48:m<48 then
        if h47:m<47 then
         have e:m=46:=by omega
         e ▸ (ev_46:Ck 46)
        else
         have e:m=47:=by omega
         e ▸ (ev_47:Ck 47)
       else
        if h49:m<49 then
         have e:m=48:=by omega
         e ▸ (ev_48:Ck 48)
        else
         have e:m=49:=by omega
         e ▸ (ev_49:Ck 49)
  else
   if h75:m<75 then
    if h62:m<62 then
     if h56:m<56 then
      if h53:m<53 then
       if h51:m<51 then
        have e:m=50:=by omega
        e ▸ (ev_50:Ck 50)
       else
        if h52:m<52 then
         have e:m=51:=by omega
         e ▸ (ev_51:Ck 51)
        else
         have e:m=52:=by omega
         e ▸ (ev_52:Ck 52)
      else
       if h54:m<54 then
        have e:m=53:=by omega
        e ▸ (ev_53:Ck 53)
       else
        if h55:m<55 then
         have e:m=54:=by omega
         e ▸ (ev_54:Ck 54)
        else
         have e:m=55:=by omega
         e ▸ (ev_55:Ck 55)
     else
      if h59:m<59 then
       if h57:m<57 then
        have e:m=56:=by omega
        e ▸ (ev_56:Ck 56)
       else
        if h58:m<58 then
         have e:m=57:=by omega
         e ▸ (ev_57:Ck 57)
        else
         have e:m=58:=by omega
         e ▸ (ev_58:Ck 58)
      else
       if h60:m<60 then
        have e:m=59:=by omega
        e ▸ (ev_59:Ck 59)
       else
        if h61:m<61 then
         have e:m=60:=by omega
         e ▸ (ev_60:Ck 60)
        else
         have e:m=61:=by omega
         e ▸ (ev_61:Ck 61)
    else
     if h68:m<68 then
      if h65:m<65 then
       if h63:m<63 then
        have e:m=62:=by omega
        e ▸ (ev_62:Ck 62)
       else
        if h64:m<64 then
         have e:m=63:=by omega
         e ▸ (ev_63:Ck 63)
        else
         have e:m=64:=by omega
         e ▸ (ev_64:Ck 64)
      else
       if h66:m<66 then
        have e:m=65:=by omega
        e ▸ (ev_65:Ck 65)
       else
        if h67:m<67 then
         have e:m=66:=by omega
         e ▸ (ev_66:Ck 66)
        else
         have e:m=67:=by omega
         e ▸ (ev_67:Ck 67)
     else
      if h71:m<71 then
       if h69:m<69 then
        have e:m=68:=by omega
        e ▸ (ev_68:Ck 68)
       else
        if h70:m<70 then
         have e:m=69:=by omega
         e ▸ (ev_69:Ck 69)
        else
         have e:m=70:=by omega
         e ▸ (ev_70:Ck 70)
      else
       if h73:m<73 then
        if h72:m<72 then
         have e:m=71:=by omega
         e ▸ (ev_71:Ck 71)
        else
         have e:m=72:=by omega
         e ▸ (ev_72:Ck 72)
       else
        if h74:m<74 then
         have e:m=73:=by omega
         e ▸ (ev_73:Ck 73)
        else
         have e:m=74:=by omega
         e ▸ (ev_74:Ck 74)
   else
    if h87:m<87 then
     if h81:m<81 then
      if h78:m<78 then
       if h76:m<76 then
        have e:m=75:=by omega
        e ▸ (ev_75:Ck 75)
       else
        if h77:m<77 then
         have e:m=76:=by omega
         e ▸ (ev_76:Ck 76)
        else
         have e:m=77:=by omega
         e ▸ (ev_77:Ck 77)
      else
       if h79:m<79 then
        have e:m=78:=by omega
        e ▸ (ev_78:Ck 78)
       else
        if h80:m<80 then
         have e:m=79:=by omega
         e ▸ (ev_79:Ck 79)
        else
         have e:m=80:=by omega
         e ▸ (ev_80:Ck 80)
     else
      if h84:m<84 then
       if h82:m<82 then
        have e:m=81:=by omega
        e ▸ (ev_81:Ck 81)
       else
        if h83:m<83 then
         have e:m=82:=by omega
         e ▸ (ev_82:Ck 82)
        else
         have e:m=83:=by omega
         e ▸ (ev_83:Ck 83)
      else
       if h85:m<85 then
        have e:m=84:=by omega
        e ▸ (ev_84:Ck 84)
       else
        if h86:m<86 then
         have e:m=85:=by omega
         e ▸ (ev_85:Ck 85)
        else
         have e:m=86:=by omega
         e ▸ (ev_86:Ck 86)
    else
     if h93:m<93 then
      if h90:m<90 then
       if h88:m<88 then
        have e:m=87:=by omega
        e ▸ (ev_87:Ck 87)
       else
        if h89:m<89 then
         have e:m=88:=by omega
         e ▸ (ev_88:Ck 88)
        else
         have e:m=89:=by omega
         e ▸ (ev_89:Ck 89)
      else
       if h91:m<91 then
        have e:m=90:=by omega
        e ▸ (ev_90:Ck 90)
       else
        if h92:m<92 then
         have e:m=91:=by omega
         e ▸ (ev_91:Ck 91)
        else
         have e:m=92:=by omega
         e ▸ (ev_92:Ck 92)
     else
      if h96:m<96 then
       if h94:m<94 then
        have e:m=93:=by omega
        e ▸ (ev_93:Ck 93)
       else
        if h95:m<95 then
         have e:m=94:=by omega
         e ▸ (ev_94:Ck 94)
        else
         have e:m=95:=by omega
         e ▸ (ev_95:Ck 95)
      else
       if h98:m<98 then
        if h97:m<97 then
         have e:m=96:=by omega
         e ▸ (ev_96:Ck 96)
        else
         have e:m=97:=by omega
         e ▸ (ev_97:Ck 97)
       else
        if h99:m<99 then
         have e:m=98:=by omega
         e ▸ (ev_98:Ck 98)
        else
         have e:m=99:=by omega
         e ▸ (ev_99:Ck 99)
 else
  if h150:m<150 then
   if h125:m<125 then
    if h112:m<112 then
     if h106:m<106 then
      if h103:m<103 then
       if h101:m<101 then
        have e:m=100:=by omega
        e ▸ (ev_100:Ck 100)
       else
        if h102:m<102 then
         have e:m=101:=by omega
         e ▸ (ev_101:Ck 101)
        else
         have e:m=102:=by omega
         e ▸ (ev_102:Ck 102)
      else
       if h104:m<104 then
        have e:m=103:=by omega
        e ▸ (ev_103:Ck 103)
       else
        if h105:m<105 then
         have e:m=104:=by omega
         e ▸ (ev_104:Ck 104)
        else
         have e:m=105:=by omega
         e ▸ (ev_105:Ck 105)
     else
      if h109:m<109 then
       if h107:m<107 then
        have e:m=106:=by omega
        e ▸ (ev_106:Ck 106)
       else
        if h108:m<108 then
         have e:m=107:=by omega
         e ▸ (ev_107:Ck 107)
        else
         have e:m=108:=by omega
         e ▸ (ev_108:Ck 108)
      else
       if h110:m<110 then
        have e:m=109:=by omega
        e ▸ (ev_109:Ck 109)
       else
        if h111:m<111 then
         have e:m=110:=by omega
         e ▸ (ev_110:Ck 110)
        else
         have e:m=111:=by omega
         e ▸ (ev_111:Ck 111)
    else
     if h118:m<118 then
      if h115:m<115 then
       if h113:m<113 then
        have e:m=112:=by omega
        e ▸ (ev_112:Ck 112)
       else
        if h114:m<114 then
         have e:m=113:=by omega
         e ▸ (ev_113:Ck 113)
        else
         have e:m=114:=by omega
         e ▸ (ev_114:Ck 114)
      else
       if h116:m<116 then
        have e:m=115:=by omega
        e ▸ (ev_115:Ck 115)
       else
        if h117:m<117 then
         have e:m=116:=by omega
         e ▸ (ev_116:Ck 116)
        else
         have e:m=117:=by omega
         e ▸ (ev_117:Ck 117)
     else
      if h121:m<121 then
       if h119:m<119 then
        have e:m=118:=by omega
        e ▸ (ev_118:Ck 118)
       else
        if h120:m<120 then
         have e:m=119:=by omega
         e ▸ (ev_119:Ck 119)
        else
         have e:m=120:=by omega
         e ▸ (ev_120:Ck 120)
      else
       if h123:m<123 then
        if h122:m<122 then
         have e:m=121:=by omega
         e ▸ (ev_121:Ck 121)
        else
         have e:m=122:=by omega
         e ▸ (ev_122:Ck 122)
       else
        if h124:m<124 then
         have e:m=123:=by omega
         e ▸ (ev_123:Ck 123)
        else
         have e:m=124:=by omega
         e ▸ (ev_124:Ck 124)
   else
    if h137:m<137 then
     if h131:m<131 then
      if h128:m<128 then
       if h126:m<126 then
        have e:m=125:=by omega
        e ▸ (ev_125:Ck 125)
       else
        if h127:m<127 then
         have e:m=126:=by omega
         e ▸ (ev_126:Ck 126)
        else
         have e:m=127:=by omega
         e ▸ (ev_127:Ck 127)
      else
       if h129:m<129 then
        have e:m=128:=by omega
        e ▸ (ev_128:Ck 128)
       else
        if h130:m<130 then
         have e:m=129:=by omega
         e ▸ (ev_129:Ck 129)
        else
         have e:m=130:=by omega
         e ▸ (ev_130:Ck 130)
     else
      if h134:m<134 then
       if h132:m<132 then
        have e:m=131:=by omega
        e ▸ (ev_131:Ck 131)
       else
        if h133:m<133 then
         have e:m=132:=by omega
         e ▸ (ev_132:Ck 132)
        else
         have e:m=133:=by omega
         e ▸ (ev_133:Ck 133)
      else
       if h135:m<135 then
        have e:m=134:=by omega
        e ▸ (ev_134:Ck 134)
       else
        if h136:m<136 then
         have e:m=135:=by omega
         e ▸ (ev_135:Ck 135)
        else
         have e:m=136:=by omega
         e ▸ (ev_136:Ck 136)
    else
     if h143:m<143 then
      if h140:m<140 then
       if h138:m<138 then
        have e:m=137:=by omega
        e ▸ (ev_137:Ck 137)
       else
        if h139:m<139 then
         have e:m=138:=by omega
         e ▸ (ev_138:Ck 138)
        else
         have e:m=139:=by omega
         e ▸ (ev_139:Ck 139)
      else
       if h141:m<141 then
        have e:m=140:=by omega
        e ▸ (ev_140:Ck 140)
       else
        if h142:m<142 then
         have e:m=141:=by omega
         e ▸ (ev_141:Ck 141)
        else
         have e:m=142:=by omega
         e ▸ (ev_142:Ck 142)
     else
      if h146:m<146 then
       if h144:m<144 then
        have e:m=143:=by omega
        e ▸ (ev_143:Ck 143)
       else
        if h145:m<145 then
         have e:m=144:=by omega
         e ▸ (ev_144:Ck 144)
        else
         have e:m=145:=by omega
         e ▸ (ev_145:Ck 145)
      else
       if h148:m<148 then
        if h147:m<147 then
         have e:m=146:=by omega
         e ▸ (ev_146:Ck 146)
        else
         have e:m=147:=by omega
         e ▸ (ev_147:Ck 147)
       else
        if h149:m<149 then
         have e:m=148:=by omega
         e ▸ (ev_148:Ck 148)
        else
         have e:m=149:=by omega
         e ▸ (ev_149:Ck 149)
  else
   if h175:m<175 then
    if h162:m<162 then
     if h156:m<156 then
      if h153:m<153 then
       if h151:m<151 then
        have e:m=150:=by omega
        e ▸ (ev_150:Ck 150)
       else
        if h152:m<152 then
         have e:m=151:=by omega
         e ▸ (ev_151:Ck 151)
        else
         have e:m=152:=by omega
         e ▸ (ev_152:Ck 152)
      else
       if h154:m<154 then
        have e:m=153:=by omega
        e ▸ (ev_153:Ck 153)
       else
        if h155:m<155 then
         have e:m=154:=by omega
         e ▸ (ev_154:Ck 154)
        else
         have e:m=155:=by omega
         e ▸ (ev_155:Ck 155)
     else
      if h159:m<159 then
       if h157:m<157 then
        have e:m=156:=by omega
        e ▸ (ev_156:Ck 156)
       else
        if h158:m<158 then
         have e:m=157:=by omega
         e ▸ (ev_157:Ck 157)
        else
         have e:m=158:=by omega
         e ▸ (ev_158:Ck 158)
      else
       if h160:m<160 then
        have e:m=159:=by omega
        e ▸ (ev_159:Ck 159)
       else
        if h161:m<161 then
         have e:m=160:=by omega
         e ▸ (ev_160:Ck 160)
        else
         have e:m=161:=by omega
         e ▸ (ev_161:Ck 161)
    else
     if h168:m<168 then
      if h165:m<165 then
       if h163:m<163 then
        have e:m=162:=by omega
        e ▸ (ev_162:Ck 162)
       else
        if h164:m<164 then
         have e:m=163:=by omega
         e ▸ (ev_163:Ck 163)
        else
         have e:m=164:=by omega
         e ▸ (ev_164:Ck 164)
      else
       if h166:m<166 then
        have e:m=165:=by omega
        e ▸ (ev_165:Ck 165)
       else
        if h167:m<167 then
         have e:m=166:=by omega
         e ▸ (ev_166:Ck 166)
        else
         have e:m=167:=by omega
         e ▸ (ev_167:Ck 167)
     else
      if h171:m<171 then
       if h169:m<169 then
        have e:m=168:=by omega
        e ▸ (ev_168:Ck 168)
       else
        if h170:m<170 then
         have e:m=169:=by omega
         e ▸ (ev_169:Ck 169)
        else
         have e:m=170:=by omega
         e ▸ (ev_170:Ck 170)
      else
       if h173:m<173 then
        if h172:m<172 then
         have e:m=171:=by omega
         e ▸ (ev_171:Ck 171)
        else
         have e:m=172:=by omega
         e ▸ (ev_172:Ck 172)
       else
        if h174:m<174 then
         have e:m=173:=by omega
         e ▸ (ev_173:Ck 173)
        else
         have e:m=174:=by omega
         e ▸ (ev_174:Ck 174)
   else
    if h187:m<187 then
     if h181:m<181 then
      if h178:m<178 then
       if h176:m<176 then
        have e:m=175:=by omega
        e ▸ (ev_175:Ck 175)
       else
        if h177:m<177 then
         have e:m=176:=by omega
         e ▸ (ev_176:Ck 176)
        else
         have e:m=177:=by omega
         e ▸ (ev_177:Ck 177)
      else
       if h179:m<179 then
        have e:m=178:=by omega
        e ▸ (ev_178:Ck 178)
       else
        if h180:m<180 then
         have e:m=179:=by omega
         e ▸ (ev_179:Ck 179)
        else
         have e:m=180:=by omega
         e ▸ (ev_180:Ck 180)
     else
      if h184:m<184 then
       if h182:m<182 then
        have e:m=181:=by omega
        e ▸ (ev_181:Ck 181)
       else
        if h183:m<183 then
         have e:m=182:=by omega
         e ▸ (ev_182:Ck 182)
        else
         have e:m=183:=by omega
         e ▸ (ev_183:Ck 183)
      else
       if h185:m<185 then
        have e:m=184:=by omega
        e ▸ (ev_184:Ck 184)
       else
        if h186:m<186 then
         have e:m=185:=by omega
         e ▸ (ev_185:Ck 185)
        else
         have e:m=186:=by omega
         e ▸ (ev_186:Ck 186)
    else
     if h193:m<193 then
      if h190:m<190 then
       if h188:m<188 then
        have e:m=187:=by omega
        e ▸ (ev_187:Ck 187)
       else
        if h189:m<189 then
         have e:m=188:=by omega
         e ▸ (ev_188:Ck 188)
        else
         have e:m=189:=by omega
         e ▸ (ev_189:Ck 189)
      else
       if h191:m<191 then
        have e:m=190:=by omega
        e ▸ (ev_190:Ck 190)
       else
        if h192:m<192 then
         have e:m=191:=by omega
         e ▸ (ev_191:Ck 191)
        else
         have e:m=192:=by omega
         e ▸ (ev_192:Ck 192)
     else
      if h196:m<196 then
       if h194:m<194 then
        have e:m=193:=by omega
        e ▸ (ev_193:Ck 193)
       else
        if h195:m<195 then
         have e:m=194:=by omega
         e ▸ (ev_194:Ck 194)
        else
         have e:m=195:=by omega
         e ▸ (ev_195:Ck 195)
      else
       if h198:m<198 then
        if h197:m<197 then
         have e:m=196:=by omega
         e ▸ (ev_196:Ck 196)
        else
         have e:m=197:=by omega
         e ▸ (ev_197:Ck 197)
       else
        if h199:m<199 then
         have e:m=198:=by omega
         e ▸ (ev_198:Ck 198)
        else
         have e:m=199:=by omega
         e ▸ (ev_199:Ck 199)
theorem law {W0 : World} (hW : WOK W0) {v : Value} {bs : List UInt8} (hi : Inp W0 v bs) : Calls Tryz.prog 3 #[v] W0 (fun e w' => e = .returned (.bool true) ∧ Agree W0 w') := by
  letI : Nu := ⟨atV bs 0 % 200, 0, 0, v⟩
  have hlt : atV bs 0 % 200 < 200 := Nat.mod_lt _ (by decide)
  have hv : ∀ i, Nu.val i = vl (atV bs 0 % 200) i := fun i => by
    show i % 10 * (atV bs 0 % 200) + i / 10 % 10 * 0 + i / 100 % 10 * 0 + i / 1000 = i % 10 * (atV bs 0 % 200) + i / 1000
    omega
  have e1 : Nu.val 1 = atV bs 0 % 200 := by rw [hv]; show 1 % 10 * (atV bs 0 % 200) + 1 / 1000 = _; omega
  have hI : ∀ k, CallOK Tryz.prog W0 k → FnAns Tryz.prog W0 46 (fItoa k) := fun _ _ => c_Itoa hW
  by_cases hn : bs.length ≤ 1048576
  · have hB : ∃ cs el fz, W0.heap[1]? = some (.cells cs el fz) := let ⟨_, _, h⟩ := hW.pow; ⟨_, _, _, h⟩
    have cG : CallOK Tryz.prog W0 g0 := run_ok hI (fun _ hk => a198 hk) (fun _ _ => noF_ans) (fun _ hk => a45 hk) (fun _ hk => a12 hk) 100
    have W := kw_of (p := pw) cG evle_w evf_w (by kernel_rfl) evw_w
    have V := kw_of (p := pv) cG evle_v evf_v (by kernel_rfl) evw_v
    have hK := kbS_of (p := pk) hv cG evk (allk _ hlt)
    have hA : ∀ k, CallOK Tryz.prog W0 k → FnAns Tryz.prog W0 16 (fAt atL k) := fun _ _ => fAt_ans ⟨_, Tryz.func16, by kernel_rfl, by kernel_rfl⟩ fun q x hm => by
      simp only [atL, List.mem_cons, Prod.mk.injEq, List.not_mem_nil, or_false] at hm
      rcases hm with ⟨rfl, rfl⟩
      exact ⟨atV bs 0, fun α => .ref (.raw (by rw [e1])), fun w A => at_run hi hn hB (by decide) w A⟩
    have cL : CallOK Tryz.prog W0 (run fItoa f198 (fAt atL) (fKB pk rho f45) (fW pw (fW pv noF)) 100) := run_ok hI (fun _ hk => a198 hk) hA (fun _ hk => fKB_ans hK (a45 hk)) (fun _ _ => fW_ans W (fW_ans V noF_ans)) 100
    exact (law_in cL hi (.inl ⟨rfl, hn⟩) evl).2
  · have cB : CallOK Tryz.prog W0 (run fItoa f198 noF noF noF 100) := run_ok hI (fun _ hk => a198 hk) (fun _ _ => noF_ans) (fun _ _ => noF_ans) (fun _ _ => noF_ans) 100
    exact (law_in cB hi (.inr ⟨rfl, by omega⟩) evB).2
end Go.X1
