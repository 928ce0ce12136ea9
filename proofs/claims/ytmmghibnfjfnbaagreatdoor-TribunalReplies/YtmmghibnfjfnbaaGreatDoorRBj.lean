/- A part of the proof of TribunalReplies. -/
import Derived.Test.YtmmghibnfjfnbaaGreatDoorRAo
import Derived.Test.YtmmghibnfjfnbaaGreatDoorRAp
import Derived.Test.YtmmghibnfjfnbaaGreatDoorRAq
import Derived.Test.YtmmghibnfjfnbaaGreatDoorRAr
import Derived.Test.YtmmghibnfjfnbaaGreatDoorRAs
import Derived.Test.YtmmghibnfjfnbaaGreatDoorRAt
import Derived.Test.YtmmghibnfjfnbaaGreatDoorRAu
import Derived.Test.YtmmghibnfjfnbaaGreatDoorRAv
import Derived.Test.YtmmghibnfjfnbaaGreatDoorRAw
import Derived.Test.YtmmghibnfjfnbaaGreatDoorRAx
import Derived.Test.YtmmghibnfjfnbaaGreatDoorRAy
import Derived.Test.YtmmghibnfjfnbaaGreatDoorRAz
import Derived.Test.YtmmghibnfjfnbaaGreatDoorRBa
import Derived.Test.YtmmghibnfjfnbaaGreatDoorRBb
import Derived.Test.YtmmghibnfjfnbaaGreatDoorRBc
import Derived.Test.YtmmghibnfjfnbaaGreatDoorRBd
import Derived.Test.YtmmghibnfjfnbaaGreatDoorRBe
import Derived.Test.YtmmghibnfjfnbaaGreatDoorRBf
import Derived.Test.YtmmghibnfjfnbaaGreatDoorRBg
import Derived.Test.YtmmghibnfjfnbaaGreatDoorRBh
import Derived.Test.YtmmghibnfjfnbaaGreatDoorRBi
import Derived.Test.YtmmghibnfjfnbaaGreatDoorRAm
import Derived.Test.YtmmghibnfjfnbaaGreatDoorRAl
import Derived.Test.YtmmghibnfjfnbaaGreatDoorCards
set_option linter.unusedVariables false
set_option linter.unusedSimpArgs false
namespace Go.Q9
open Go.Ev Go.Proofs
set_option maxRecDepth 1000000
theorem ok0 (k:Int):TabOK Go.Proofs.Tryz.prog (G k) T0:= .nil
theorem ok1 (k:Int):TabOK Go.Proofs.Tryz.prog (G k) T1:=s0 k (ok0 k)
theorem ok2 (k:Int):TabOK Go.Proofs.Tryz.prog (G k) T2:=s1 k (ok1 k)
theorem ok3 (k:Int):TabOK Go.Proofs.Tryz.prog (G k) T3:=s2 k (ok2 k)
theorem ok4 (k:Int):TabOK Go.Proofs.Tryz.prog (G k) T4:=s3 k (ok3 k)
theorem ok5 (k:Int):TabOK Go.Proofs.Tryz.prog (G k) T5:=s4 k (ok4 k)
theorem ok6 (k:Int):TabOK Go.Proofs.Tryz.prog (G k) T6:=s5 k (ok5 k)
theorem ok7 (k:Int):TabOK Go.Proofs.Tryz.prog (G k) T7:=s6 k (ok6 k)
theorem ok8 (k:Int):TabOK Go.Proofs.Tryz.prog (G k) T8:=s7 k (ok7 k)
theorem ok9 (k:Int):TabOK Go.Proofs.Tryz.prog (G k) T9:=s8 k (ok8 k)
theorem ok10 (k:Int):TabOK Go.Proofs.Tryz.prog (G k) T10:=s9 k (ok9 k)
theorem ok11 (k:Int):TabOK Go.Proofs.Tryz.prog (G k) T11:=s10 k (ok10 k)
theorem ok12 (k:Int):TabOK Go.Proofs.Tryz.prog (G k) T12:=s11 k (ok11 k)
theorem ok13 (k:Int):TabOK Go.Proofs.Tryz.prog (G k) T13:=s12 k (ok12 k)
theorem ok14 (k:Int):TabOK Go.Proofs.Tryz.prog (G k) T14:=s13 k (ok13 k)
theorem ok15 (k:Int):TabOK Go.Proofs.Tryz.prog (G k) T15:=s14 k (ok14 k)
theorem ok16 (k:Int):TabOK Go.Proofs.Tryz.prog (G k) T16:=s15 k (ok15 k)
theorem ok17 (k:Int):TabOK Go.Proofs.Tryz.prog (G k) T17:=s16 k (ok16 k)
theorem ok18 (k:Int):TabOK Go.Proofs.Tryz.prog (G k) T18:=s17 k (ok17 k)
theorem ok19 (k:Int):TabOK Go.Proofs.Tryz.prog (G k) T19:=s18 k (ok18 k)
theorem ok20 (k:Int):TabOK Go.Proofs.Tryz.prog (G k) T20:=s19 k (ok19 k)
theorem ok21 (k:Int):TabOK Go.Proofs.Tryz.prog (G k) T21:=s20 k (ok20 k)
theorem ok22 (k:Int):TabOK Go.Proofs.Tryz.prog (G k) T22:=s21 k (ok21 k)
theorem ok23 (k:Int):TabOK Go.Proofs.Tryz.prog (G k) T23:=s22 k (ok22 k)
theorem ok24 (k:Int):TabOK Go.Proofs.Tryz.prog (G k) T24:=s23 k (ok23 k)
theorem ok25 (k:Int):TabOK Go.Proofs.Tryz.prog (G k) T25:=s24 k (ok24 k)
theorem ok26 (k:Int):TabOK Go.Proofs.Tryz.prog (G k) T26:=s25 k (ok25 k)
theorem ok27 (k:Int):TabOK Go.Proofs.Tryz.prog (G k) T27:=s26 k (ok26 k)
theorem ok28 (k:Int):TabOK Go.Proofs.Tryz.prog (G k) T28:=s27 k (ok27 k)
theorem ok29 (k:Int):TabOK Go.Proofs.Tryz.prog (G k) T29:=s28 k (ok28 k)
theorem ok30 (k:Int):TabOK Go.Proofs.Tryz.prog (G k) T30:=s29 k (ok29 k)
theorem ok31 (k:Int):TabOK Go.Proofs.Tryz.prog (G k) T31:=s30 k (ok30 k)
theorem ok32 (k:Int):TabOK Go.Proofs.Tryz.prog (G k) T32:=s31 k (ok31 k)
theorem ok33 (k:Int):TabOK Go.Proofs.Tryz.prog (G k) T33:=s32 k (ok32 k)
theorem ok34 (k:Int):TabOK Go.Proofs.Tryz.prog (G k) T34:=s33 k (ok33 k)
theorem ok35 (k:Int):TabOK Go.Proofs.Tryz.prog (G k) T35:=s34 k (ok34 k)
theorem ok36 (k:Int):TabOK Go.Proofs.Tryz.prog (G k) T36:=s35 k (ok35 k)
theorem ok37 (k:Int):TabOK Go.Proofs.Tryz.prog (G k) T37:=s36 k (ok36 k)
theorem ok38 (k:Int):TabOK Go.Proofs.Tryz.prog (G k) T38:=s37 k (ok37 k)
theorem ok39 (k:Int):TabOK Go.Proofs.Tryz.prog (G k) T39:=s38 k (ok38 k)
theorem ok40 (k:Int):TabOK Go.Proofs.Tryz.prog (G k) T40:=s39 k (ok39 k)
theorem ok41 (k:Int):TabOK Go.Proofs.Tryz.prog (G k) T41:=s40 k (ok40 k)
theorem ok42 (k:Int):TabOK Go.Proofs.Tryz.prog (G k) T42:=s41 k (ok41 k)
theorem ok43 (k:Int):TabOK Go.Proofs.Tryz.prog (G k) T43:=s42 k (ok42 k)
theorem ok44 (k:Int):TabOK Go.Proofs.Tryz.prog (G k) T44:=s43 k (ok43 k)
theorem ok45 (k:Int):TabOK Go.Proofs.Tryz.prog (G k) T45:=s44 k (ok44 k)
theorem ok46 (k:Int):TabOK Go.Proofs.Tryz.prog (G k) T46:=s45 k (ok45 k)
theorem ok47 (k:Int):TabOK Go.Proofs.Tryz.prog (G k) T47:=s46 k (ok46 k)
theorem ok48 (k:Int):TabOK Go.Proofs.Tryz.prog (G k) T48:=s47 k (ok47 k)
theorem ok49 (k:Int):TabOK Go.Proofs.Tryz.prog (G k) T49:=s48 k (ok48 k)
theorem ok50 (k:Int):TabOK Go.Proofs.Tryz.prog (G k) T50:=s49 k (ok49 k)
theorem ok51 (k:Int):TabOK Go.Proofs.Tryz.prog (G k) T51:=s50 k (ok50 k)
theorem ok52 (k:Int):TabOK Go.Proofs.Tryz.prog (G k) T52:=s51 k (ok51 k)
theorem ok53 (k:Int):TabOK Go.Proofs.Tryz.prog (G k) T53:=s52 k (ok52 k)
theorem ok54 (k:Int):TabOK Go.Proofs.Tryz.prog (G k) T54:=s53 k (ok53 k)
theorem ok55 (k:Int):TabOK Go.Proofs.Tryz.prog (G k) T55:=s54 k (ok54 k)
theorem ok56 (k:Int):TabOK Go.Proofs.Tryz.prog (G k) T56:=s55 k (ok55 k)
theorem ok57 (k:Int):TabOK Go.Proofs.Tryz.prog (G k) T57:=s56 k (ok56 k)
theorem ok58 (k:Int):TabOK Go.Proofs.Tryz.prog (G k) T58:=s57 k (ok57 k)
theorem ok59 (k:Int):TabOK Go.Proofs.Tryz.prog (G k) T59:=s58 k (ok58 k)
theorem ok60 (k:Int):TabOK Go.Proofs.Tryz.prog (G k) T60:=s59 k (ok59 k)
theorem ok61 (k:Int):TabOK Go.Proofs.Tryz.prog (G k) T61:=s60 k (ok60 k)
theorem ok62 (k:Int):TabOK Go.Proofs.Tryz.prog (G k) T62:=s61 k (ok61 k)
theorem ok63 (k:Int):TabOK Go.Proofs.Tryz.prog (G k) T63:=s62 k (ok62 k)
theorem ok64 (k:Int):TabOK Go.Proofs.Tryz.prog (G k) T64:=s63 k (ok63 k)
theorem ok65 (k:Int):TabOK Go.Proofs.Tryz.prog (G k) T65:=s64 k (ok64 k)
theorem ok66 (k:Int):TabOK Go.Proofs.Tryz.prog (G k) T66:=s65 k (ok65 k)
theorem ok67 (k:Int):TabOK Go.Proofs.Tryz.prog (G k) T67:=s66 k (ok66 k)
theorem ok68 (k:Int):TabOK Go.Proofs.Tryz.prog (G k) T68:=s67 k (ok67 k)
theorem ok69 (k:Int):TabOK Go.Proofs.Tryz.prog (G k) T69:=s68 k (ok68 k)
theorem ok70 (k:Int):TabOK Go.Proofs.Tryz.prog (G k) T70:=s69 k (ok69 k)
theorem ok71 (k:Int):TabOK Go.Proofs.Tryz.prog (G k) T71:=s70 k (ok70 k)
theorem ok72 (k:Int):TabOK Go.Proofs.Tryz.prog (G k) T72:=s71 k (ok71 k)
theorem ok73 (k:Int):TabOK Go.Proofs.Tryz.prog (G k) T73:=s72 k (ok72 k)
theorem ok74 (k:Int):TabOK Go.Proofs.Tryz.prog (G k) T74:=s73 k (ok73 k)
theorem ok75 (k:Int):TabOK Go.Proofs.Tryz.prog (G k) T75:=s74 k (ok74 k)
theorem ok76 (k:Int):TabOK Go.Proofs.Tryz.prog (G k) T76:=s75 k (ok75 k)
theorem ok77 (k:Int):TabOK Go.Proofs.Tryz.prog (G k) T77:=s76 k (ok76 k)
theorem ok78 (k:Int):TabOK Go.Proofs.Tryz.prog (G k) T78:=s77 k (ok77 k)
theorem ok79 (k:Int):TabOK Go.Proofs.Tryz.prog (G k) T79:=s78 k (ok78 k)
theorem ok80 (k:Int):TabOK Go.Proofs.Tryz.prog (G k) T80:=s79 k (ok79 k)
theorem ok81 (k:Int):TabOK Go.Proofs.Tryz.prog (G k) T81:=s80 k (ok80 k)
theorem ok82 (k:Int):TabOK Go.Proofs.Tryz.prog (G k) T82:=s81 k (ok81 k)
theorem ok83 (k:Int):TabOK Go.Proofs.Tryz.prog (G k) T83:=s82 k (ok82 k)
theorem ok84 (k:Int):TabOK Go.Proofs.Tryz.prog (G k) T84:=s83 k (ok83 k)
theorem ok85 (k:Int):TabOK Go.Proofs.Tryz.prog (G k) T85:=s84 k (ok84 k)
theorem ok86 (k:Int):TabOK Go.Proofs.Tryz.prog (G k) T86:=s85 k (ok85 k)
theorem ok87 (k:Int):TabOK Go.Proofs.Tryz.prog (G k) T87:=s86 k (ok86 k)
theorem ok88 (k:Int):TabOK Go.Proofs.Tryz.prog (G k) T88:=s87 k (ok87 k)
theorem ok89 (k:Int):TabOK Go.Proofs.Tryz.prog (G k) T89:=s88 k (ok88 k)
theorem ok90 (k:Int):TabOK Go.Proofs.Tryz.prog (G k) T90:=s89 k (ok89 k)
theorem ok91 (k:Int):TabOK Go.Proofs.Tryz.prog (G k) T91:=s90 k (ok90 k)
theorem ok92 (k:Int):TabOK Go.Proofs.Tryz.prog (G k) T92:=s91 k (ok91 k)
theorem ok93 (k:Int):TabOK Go.Proofs.Tryz.prog (G k) T93:=s92 k (ok92 k)
theorem ok94 (k:Int):TabOK Go.Proofs.Tryz.prog (G k) T94:=s93 k (ok93 k)
theorem ok95 (k:Int):TabOK Go.Proofs.Tryz.prog (G k) T95:=s94 k (ok94 k)
theorem ok96 (k:Int):TabOK Go.Proofs.Tryz.prog (G k) T96:=s95 k (ok95 k)
theorem ok97 (k:Int):TabOK Go.Proofs.Tryz.prog (G k) T97:=s96 k (ok96 k)
theorem ok98 (k:Int):TabOK Go.Proofs.Tryz.prog (G k) T98:=s97 k (ok97 k)
theorem ok99 (k:Int):TabOK Go.Proofs.Tryz.prog (G k) T99:=s98 k (ok98 k)
theorem ok100 (k:Int):TabOK Go.Proofs.Tryz.prog (G k) T100:=s99 k (ok99 k)
theorem ok101 (k:Int):TabOK Go.Proofs.Tryz.prog (G k) T101:=s100 k (ok100 k)
theorem ok102 (k:Int):TabOK Go.Proofs.Tryz.prog (G k) T102:=s101 k (ok101 k)
theorem ok103 (k:Int):TabOK Go.Proofs.Tryz.prog (G k) T103:=s102 k (ok102 k)
theorem ok104 (k:Int):TabOK Go.Proofs.Tryz.prog (G k) T104:=s103 k (ok103 k)
theorem ok105 (k:Int):TabOK Go.Proofs.Tryz.prog (G k) T105:=s104 k (ok104 k)
theorem ok106 (k:Int):TabOK Go.Proofs.Tryz.prog (G k) T106:=s105 k (ok105 k)
theorem ok107 (k:Int):TabOK Go.Proofs.Tryz.prog (G k) T107:=s106 k (ok106 k)
theorem ok108 (k:Int):TabOK Go.Proofs.Tryz.prog (G k) T108:=s107 k (ok107 k)
theorem ok109 (k:Int):TabOK Go.Proofs.Tryz.prog (G k) T109:=s108 k (ok108 k)
theorem ok110 (k:Int):TabOK Go.Proofs.Tryz.prog (G k) T110:=s109 k (ok109 k)
theorem ok111 (k:Int):TabOK Go.Proofs.Tryz.prog (G k) T111:=s110 k (ok110 k)
theorem ok112 (k:Int):TabOK Go.Proofs.Tryz.prog (G k) T112:=s111 k (ok111 k)
theorem ok113 (k:Int):TabOK Go.Proofs.Tryz.prog (G k) T113:=s112 k (ok112 k)
theorem ok114 (k:Int):TabOK Go.Proofs.Tryz.prog (G k) T114:=s113 k (ok113 k)
theorem ok115 (k:Int):TabOK Go.Proofs.Tryz.prog (G k) T115:=s114 k (ok114 k)
theorem ok116 (k:Int):TabOK Go.Proofs.Tryz.prog (G k) T116:=s115 k (ok115 k)
theorem ok117 (k:Int):TabOK Go.Proofs.Tryz.prog (G k) T117:=s116 k (ok116 k)
theorem ok118 (k:Int):TabOK Go.Proofs.Tryz.prog (G k) T118:=s117 k (ok117 k)
theorem ok119 (k:Int):TabOK Go.Proofs.Tryz.prog (G k) T119:=s118 k (ok118 k)
theorem ok120 (k:Int):TabOK Go.Proofs.Tryz.prog (G k) T120:=s119 k (ok119 k)
theorem ok121 (k:Int):TabOK Go.Proofs.Tryz.prog (G k) T121:=s120 k (ok120 k)
theorem ok122 (k:Int):TabOK Go.Proofs.Tryz.prog (G k) T122:=s121 k (ok121 k)
theorem ok123 (k:Int):TabOK Go.Proofs.Tryz.prog (G k) T123:=s122 k (ok122 k)
theorem ok124 (k:Int):TabOK Go.Proofs.Tryz.prog (G k) T124:=s123 k (ok123 k)
theorem ok125 (k:Int):TabOK Go.Proofs.Tryz.prog (G k) T125:=s124 k (ok124 k)
theorem ok126 (k:Int):TabOK Go.Proofs.Tryz.prog (G k) T126:=s125 k (ok125 k)
theorem ok127 (k:Int):TabOK Go.Proofs.Tryz.prog (G k) T127:=s126 k (ok126 k)
theorem ok128 (k:Int):TabOK Go.Proofs.Tryz.prog (G k) T128:=s127 k (ok127 k)
theorem ok129 (k:Int):TabOK Go.Proofs.Tryz.prog (G k) T129:=s128 k (ok128 k)
theorem ok130 (k:Int):TabOK Go.Proofs.Tryz.prog (G k) T130:=s129 k (ok129 k)
theorem ok131 (k:Int):TabOK Go.Proofs.Tryz.prog (G k) T131:=s130 k (ok130 k)
theorem ok132 (k:Int):TabOK Go.Proofs.Tryz.prog (G k) T132:=s131 k (ok131 k)
theorem ok133 (k:Int):TabOK Go.Proofs.Tryz.prog (G k) T133:=s132 k (ok132 k)
theorem ok134 (k:Int):TabOK Go.Proofs.Tryz.prog (G k) T134:=s133 k (ok133 k)
theorem ok135 (k:Int):TabOK Go.Proofs.Tryz.prog (G k) T135:=s134 k (ok134 k)
theorem ok136 (k:Int):TabOK Go.Proofs.Tryz.prog (G k) T136:=s135 k (ok135 k)
theorem ok137 (k:Int):TabOK Go.Proofs.Tryz.prog (G k) T137:=s136 k (ok136 k)
theorem ok138 (k:Int):TabOK Go.Proofs.Tryz.prog (G k) T138:=s137 k (ok137 k)
theorem ok139 (k:Int):TabOK Go.Proofs.Tryz.prog (G k) T139:=s138 k (ok138 k)
theorem ok140 (k:Int):TabOK Go.Proofs.Tryz.prog (G k) T140:=s139 k (ok139 k)
theorem ok141 (k:Int):TabOK Go.Proofs.Tryz.prog (G k) T141:=s140 k (ok140 k)
theorem ok142 (k:Int):TabOK Go.Proofs.Tryz.prog (G k) T142:=s141 k (ok141 k)
theorem ok143 (k:Int):TabOK Go.Proofs.Tryz.prog (G k) T143:=s142 k (ok142 k)
theorem ok144 (k:Int):TabOK Go.Proofs.Tryz.prog (G k) T144:=s143 k (ok143 k)
theorem ok145 (k:Int):TabOK Go.Proofs.Tryz.prog (G k) T145:=s144 k (ok144 k)
theorem ok146 (k:Int):TabOK Go.Proofs.Tryz.prog (G k) T146:=s145 k (ok145 k)
theorem ok147 (k:Int):TabOK Go.Proofs.Tryz.prog (G k) T147:=s146 k (ok146 k)
theorem ok148 (k:Int):TabOK Go.Proofs.Tryz.prog (G k) T148:=s147 k (ok147 k)
theorem ok149 (k:Int):TabOK Go.Proofs.Tryz.prog (G k) T149:=s148 k (ok148 k)
theorem ok150 (k:Int):TabOK Go.Proofs.Tryz.prog (G k) T150:=s149 k (ok149 k)
theorem ok151 (k:Int):TabOK Go.Proofs.Tryz.prog (G k) T151:=s150 k (ok150 k)
theorem ok152 (k:Int):TabOK Go.Proofs.Tryz.prog (G k) T152:=s151 k (ok151 k)
theorem ok153 (k:Int):TabOK Go.Proofs.Tryz.prog (G k) T153:=s152 k (ok152 k)
theorem ok154 (k:Int):TabOK Go.Proofs.Tryz.prog (G k) T154:=s153 k (ok153 k)
theorem ok155 (k:Int):TabOK Go.Proofs.Tryz.prog (G k) T155:=s154 k (ok154 k)
theorem ok156 (k:Int):TabOK Go.Proofs.Tryz.prog (G k) T156:=s155 k (ok155 k)
theorem ok157 (k:Int):TabOK Go.Proofs.Tryz.prog (G k) T157:=s156 k (ok156 k)
theorem ok158 (k:Int):TabOK Go.Proofs.Tryz.prog (G k) T158:=s157 k (ok157 k)
theorem ok159 (k:Int):TabOK Go.Proofs.Tryz.prog (G k) T159:=s158 k (ok158 k)
theorem ok160 (k:Int):TabOK Go.Proofs.Tryz.prog (G k) T160:=s159 k (ok159 k)
theorem ok161 (k:Int):TabOK Go.Proofs.Tryz.prog (G k) T161:=s160 k (ok160 k)
theorem ok162 (k:Int):TabOK Go.Proofs.Tryz.prog (G k) T162:=s161 k (ok161 k)
theorem ok163 (k:Int):TabOK Go.Proofs.Tryz.prog (G k) T163:=s162 k (ok162 k)
theorem ok164 (k:Int):TabOK Go.Proofs.Tryz.prog (G k) T164:=s163 k (ok163 k)
theorem ok165 (k:Int):TabOK Go.Proofs.Tryz.prog (G k) T165:=s164 k (ok164 k)
theorem ok166 (k:Int):TabOK Go.Proofs.Tryz.prog (G k) T166:=s165 k (ok165 k)
theorem ok167 (k:Int):TabOK Go.Proofs.Tryz.prog (G k) T167:=s166 k (ok166 k)
theorem ok168 (k:Int):TabOK Go.Proofs.Tryz.prog (G k) T168:=s167 k (ok167 k)
theorem ok169 (k:Int):TabOK Go.Proofs.Tryz.prog (G k) T169:=s168 k (ok168 k)
theorem ok170 (k:Int):TabOK Go.Proofs.Tryz.prog (G k) T170:=s169 k (ok169 k)
theorem ok171 (k:Int):TabOK Go.Proofs.Tryz.prog (G k) T171:=s170 k (ok170 k)
theorem ok172 (k:Int):TabOK Go.Proofs.Tryz.prog (G k) T172:=s171 k (ok171 k)
theorem ok173 (k:Int):TabOK Go.Proofs.Tryz.prog (G k) T173:=s172 k (ok172 k)
theorem ok174 (k:Int):TabOK Go.Proofs.Tryz.prog (G k) T174:=s173 k (ok173 k)
theorem ok175 (k:Int):TabOK Go.Proofs.Tryz.prog (G k) T175:=s174 k (ok174 k)
theorem ok176 (k:Int):TabOK Go.Proofs.Tryz.prog (G k) T176:=s175 k (ok175 k)
theorem ok177 (k:Int):TabOK Go.Proofs.Tryz.prog (G k) T177:=s176 k (ok176 k)
theorem ok178 (k:Int):TabOK Go.Proofs.Tryz.prog (G k) T178:=s177 k (ok177 k)
theorem ok179 (k:Int):TabOK Go.Proofs.Tryz.prog (G k) T179:=s178 k (ok178 k)
theorem ok180 (k:Int):TabOK Go.Proofs.Tryz.prog (G k) T180:=s179 k (ok179 k)
theorem ok181 (k:Int):TabOK Go.Proofs.Tryz.prog (G k) T181:=s180 k (ok180 k)
theorem ok182 (k:Int):TabOK Go.Proofs.Tryz.prog (G k) T182:=s181 k (ok181 k)
theorem ok183 (k:Int):TabOK Go.Proofs.Tryz.prog (G k) T183:=s182 k (ok182 k)
theorem ok184 (k:Int):TabOK Go.Proofs.Tryz.prog (G k) T184:=s183 k (ok183 k)
theorem ok185 (k:Int):TabOK Go.Proofs.Tryz.prog (G k) T185:=s184 k (ok184 k)
theorem ok186 (k:Int):TabOK Go.Proofs.Tryz.prog (G k) T186:=s185 k (ok185 k)
theorem ok187 (k:Int):TabOK Go.Proofs.Tryz.prog (G k) T187:=s186 k (ok186 k)
theorem ok188 (k:Int):TabOK Go.Proofs.Tryz.prog (G k) T188:=s187 k (ok187 k)
theorem ok189 (k:Int):TabOK Go.Proofs.Tryz.prog (G k) T189:=s188 k (ok188 k)
theorem ok190 (k:Int):TabOK Go.Proofs.Tryz.prog (G k) T190:=s189 k (ok189 k)
theorem ok191 (k:Int):TabOK Go.Proofs.Tryz.prog (G k) T191:=s190 k (ok190 k)
theorem ok192 (k:Int):TabOK Go.Proofs.Tryz.prog (G k) T192:=s191 k (ok191 k)
theorem ok193 (k:Int):TabOK Go.Proofs.Tryz.prog (G k) T193:=s192 k (ok192 k)
theorem ok194 (k:Int):TabOK Go.Proofs.Tryz.prog (G k) T194:=s193 k (ok193 k)
theorem ok195 (k:Int):TabOK Go.Proofs.Tryz.prog (G k) T195:=s194 k (ok194 k)
theorem ok196 (k:Int):TabOK Go.Proofs.Tryz.prog (G k) T196:=s195 k (ok195 k)
theorem ok197 (k:Int):TabOK Go.Proofs.Tryz.prog (G k) T197:=s196 k (ok196 k)
theorem ok198 (k:Int):TabOK Go.Proofs.Tryz.prog (G k) T198:=s197 k (ok197 k)
theorem ok199 (k:Int):TabOK Go.Proofs.Tryz.prog (G k) T199:=s198 k (ok198 k)
theorem ok200 (k:Int):TabOK Go.Proofs.Tryz.prog (G k) T200:=s199 k (ok199 k)
theorem ok201 (k:Int):TabOK Go.Proofs.Tryz.prog (G k) T201:=s200 k (ok200 k)
theorem ok202 (k:Int):TabOK Go.Proofs.Tryz.prog (G k) T202:=s201 k (ok201 k)
theorem ok203 (k:Int):TabOK Go.Proofs.Tryz.prog (G k) T203:=s202 k (ok202 k)
theorem ok204 (k:Int):TabOK Go.Proofs.Tryz.prog (G k) T204:=s203 k (ok203 k)
theorem ok205 (k:Int):TabOK Go.Proofs.Tryz.prog (G k) T205:=s204 k (ok204 k)
theorem ok206 (k:Int):TabOK Go.Proofs.Tryz.prog (G k) T206:=s205 k (ok205 k)
theorem ok207 (k:Int):TabOK Go.Proofs.Tryz.prog (G k) T207:=s206 k (ok206 k)
theorem ok208 (k:Int):TabOK Go.Proofs.Tryz.prog (G k) T208:=s207 k (ok207 k)
theorem ok209 (k:Int):TabOK Go.Proofs.Tryz.prog (G k) T209:=s208 k (ok208 k)
theorem ok210 (k:Int):TabOK Go.Proofs.Tryz.prog (G k) T210:=s209 k (ok209 k)
theorem ok211 (k:Int):TabOK Go.Proofs.Tryz.prog (G k) T211:=s210 k (ok210 k)
theorem ok212 (k:Int):TabOK Go.Proofs.Tryz.prog (G k) T212:=s211 k (ok211 k)
theorem ok213 (k:Int):TabOK Go.Proofs.Tryz.prog (G k) T213:=s212 k (ok212 k)
theorem ok214 (k:Int):TabOK Go.Proofs.Tryz.prog (G k) T214:=s213 k (ok213 k)
theorem ok215 (k:Int):TabOK Go.Proofs.Tryz.prog (G k) T215:=s214 k (ok214 k)
theorem ok216 (k:Int):TabOK Go.Proofs.Tryz.prog (G k) T216:=s215 k (ok215 k)
theorem ok217 (k:Int):TabOK Go.Proofs.Tryz.prog (G k) T217:=s216 k (ok216 k)
theorem ok218 (k:Int):TabOK Go.Proofs.Tryz.prog (G k) T218:=s217 k (ok217 k)
theorem ok219 (k:Int):TabOK Go.Proofs.Tryz.prog (G k) T219:=s218 k (ok218 k)
theorem ok220 (k:Int):TabOK Go.Proofs.Tryz.prog (G k) T220:=s219 k (ok219 k)
theorem ok221 (k:Int):TabOK Go.Proofs.Tryz.prog (G k) T221:=s220 k (ok220 k)
theorem ok222 (k:Int):TabOK Go.Proofs.Tryz.prog (G k) T222:=s221 k (ok221 k)
theorem ok223 (k:Int):TabOK Go.Proofs.Tryz.prog (G k) T223:=s222 k (ok222 k)
theorem ok224 (k:Int):TabOK Go.Proofs.Tryz.prog (G k) T224:=s223 k (ok223 k)
theorem ok225 (k:Int):TabOK Go.Proofs.Tryz.prog (G k) T225:=s224 k (ok224 k)
theorem ok226 (k:Int):TabOK Go.Proofs.Tryz.prog (G k) T226:=s225 k (ok225 k)
theorem ok227 (k:Int):TabOK Go.Proofs.Tryz.prog (G k) T227:=s226 k (ok226 k)
theorem ok228 (k:Int):TabOK Go.Proofs.Tryz.prog (G k) T228:=s227 k (ok227 k)
theorem ok229 (k:Int):TabOK Go.Proofs.Tryz.prog (G k) T229:=s228 k (ok228 k)
theorem ok230 (k:Int):TabOK Go.Proofs.Tryz.prog (G k) T230:=s229 k (ok229 k)
theorem ok231 (k:Int):TabOK Go.Proofs.Tryz.prog (G k) T231:=s230 k (ok230 k)
theorem ok232 (k:Int):TabOK Go.Proofs.Tryz.prog (G k) T232:=s231 k (ok231 k)
theorem ok233 (k:Int):TabOK Go.Proofs.Tryz.prog (G k) T233:=s232 k (ok232 k)
theorem ok234 (k:Int):TabOK Go.Proofs.Tryz.prog (G k) T234:=s233 k (ok233 k)
theorem ok235 (k:Int):TabOK Go.Proofs.Tryz.prog (G k) T235:=s234 k (ok234 k)
theorem ok236 (k:Int):TabOK Go.Proofs.Tryz.prog (G k) T236:=s235 k (ok235 k)
theorem ok237 (k:Int):TabOK Go.Proofs.Tryz.prog (G k) T237:=s236 k (ok236 k)
theorem ok238 (k:Int):TabOK Go.Proofs.Tryz.prog (G k) T238:=s237 k (ok237 k)
theorem ok239 (k:Int):TabOK Go.Proofs.Tryz.prog (G k) T239:=s238 k (ok238 k)
theorem ok240 (k:Int):TabOK Go.Proofs.Tryz.prog (G k) T240:=s239 k (ok239 k)
theorem ok241 (k:Int):TabOK Go.Proofs.Tryz.prog (G k) T241:=s240 k (ok240 k)
theorem ok242 (k:Int):TabOK Go.Proofs.Tryz.prog (G k) T242:=s241 k (ok241 k)
theorem ok243 (k:Int):TabOK Go.Proofs.Tryz.prog (G k) T243:=s242 k (ok242 k)
theorem ok244 (k:Int):TabOK Go.Proofs.Tryz.prog (G k) T244:=s243 k (ok243 k)
theorem ok245 (k:Int):TabOK Go.Proofs.Tryz.prog (G k) T245:=s244 k (ok244 k)
theorem ok246 (k:Int):TabOK Go.Proofs.Tryz.prog (G k) T246:=s245 k (ok245 k)
theorem ok247 (k:Int):TabOK Go.Proofs.Tryz.prog (G k) T247:=s246 k (ok246 k)
theorem ok248 (k:Int):TabOK Go.Proofs.Tryz.prog (G k) T248:=s247 k (ok247 k)
theorem ok249 (k:Int):TabOK Go.Proofs.Tryz.prog (G k) T249:=s248 k (ok248 k)
theorem ok250 (k:Int):TabOK Go.Proofs.Tryz.prog (G k) T250:=s249 k (ok249 k)
theorem ok251 (k:Int):TabOK Go.Proofs.Tryz.prog (G k) T251:=s250 k (ok250 k)
theorem sanity (k:Int) (w:World) (hw:GlobOK (G k) w):Calls Go.Proofs.Tryz.prog 6 #[] w fun e w'=>e= .returned (.bool true)∧RowKit.Below w.heap.size w w':=
 run_closed (hB k) (ok251 k) 100000 (by kernel_rfl) w hw
end Go.Q9
namespace Go.S9
open Go.Ev Go.Proofs
set_option maxRecDepth 100000
set_option linter.unusedVariables false
set_option linter.unusedSimpArgs false
variable {K : Int} {H : Hp} {k : AV → Bool}
theorem sanity6_c:CQ P (G K) 6 [] (·= .bool true):=by
 intro w vs L hg hd
 obtain⟨vs⟩:=vs
 cases hd
 have hg':GlobOK (Go.Q9.G K) w:=hg
 exact callsIn_wide.2 ((Go.Q9.sanity K w hg').mono fun e w' ⟨he,hb⟩=>⟨_, .bool true,[],he,rfl, .bool _,(fun j hj=>by cases hj),hb⟩)
theorem plainB_refl (a:Reply):plainB a a=true:=by
 have h1:∀x,eqI x x=true:=fun x=>by simp [eqI]
 have h2:∀x,eqPost x x=true:=fun x=>by simp [eqPost]
 simp [plainB,eq6,eq2,sameL_refl h1,sameL_refl h2]
theorem sameB_refl (a:Reply):sameB a a=true:=by
 have h1:∀x,eqI x x=true:=fun x=>by simp [eqI]
 have h3:∀x,eqRead x x=true:=fun x=>by simp [eqRead]
 have h4:∀x,eqRaise x x=true:=fun x=>by simp [eqRaise]
 have h5:∀x,eqReading x x=true:=fun x=>by simp [eqReading,sameL_refl h1,sameL_refl h3]
 have h6:∀x,eqProof x x=true:=fun x=>by simp [eqProof,sameL_refl h4]
 simp [sameB,plainB_refl,sameL_refl h5,sameL_refl h6]
theorem tlD_tup (r:Reply):∃s e,tlD r= .tup [.str s, .int .i64 e]:=by
 unfold tlD
 split
 ·exact⟨_,_,rfl⟩
 ·split<;>exact⟨_,_,rfl⟩
set_option maxHeartbeats 4000000 in
theorem law5_c {a b:Reply} (ha:ReplyOK a) (hb:ReplyOK b):CQ P (G K) 5 [.agg (eReply a), .agg (eReply b)] (·= .bool true):=by
 refine CQ.enter (hG K) ?_
 cases h1:briefB a with
 | false=>
  (try simp (disch:=first|exact bk rfl|omega|(simp only [ln];omega)|(simp only [go_sem];done)|decide) only [go_sem,Nat.reduceAdd,Nat.reduceMul,Nat.reduceEqDiff,Nat.reduceLT,Nat.reduceLeDiff,reduceIte,eReply,h5,r5,h5_0,h5_2,h5_3,h1]);repeat' first|((with_reducible first|apply gJoin_split|apply cond_split|apply gJoinD_split)<;>intro h<;>(try simp only [spl] at h)<;>try simp (disch:=first|exact bk rfl|omega|(simp only [ln];omega)|(simp only [go_sem];done)|decide) only [go_sem,Nat.reduceAdd,Nat.reduceMul,Nat.reduceEqDiff,Nat.reduceLT,Nat.reduceLeDiff,reduceIte,eReply,h5,r5,h5_0,h5_2,h5_3,h1,h])|((with_reducible refine cl_guard ?_;first|refine cl_eq (hG K) _ (brief13_c ha) rfl ?_|refine cl_eq (hG K) _ (sanity6_c) rfl ?_)<;>try simp (disch:=first|exact bk rfl|omega|(simp only [ln];omega)|(simp only [go_sem];done)|decide) only [go_sem,Nat.reduceAdd,Nat.reduceMul,Nat.reduceEqDiff,Nat.reduceLT,Nat.reduceLeDiff,reduceIte,eReply,h5,r5,h5_0,h5_2,h5_3,h1])
  exact endQ_fro (.bool true) rfl
 | true=>
  cases h2:briefB b with
  | false=>
   (try simp (disch:=first|exact bk rfl|omega|(simp only [ln];omega)|(simp only [go_sem];done)|decide) only [go_sem,Nat.reduceAdd,Nat.reduceMul,Nat.reduceEqDiff,Nat.reduceLT,Nat.reduceLeDiff,reduceIte,eReply,h5,r5,h5_0,h5_2,h5_3,h1,h2]);repeat' first|((with_reducible first|apply gJoin_split|apply cond_split|apply gJoinD_split)<;>intro h<;>(try simp only [spl] at h)<;>try simp (disch:=first|exact bk rfl|omega|(simp only [ln];omega)|(simp only [go_sem];done)|decide) only [go_sem,Nat.reduceAdd,Nat.reduceMul,Nat.reduceEqDiff,Nat.reduceLT,Nat.reduceLeDiff,reduceIte,eReply,h5,r5,h5_0,h5_2,h5_3,h1,h2,h])|((with_reducible refine cl_guard ?_;first|refine cl_eq (hG K) _ (brief13_c ha) rfl ?_|refine cl_eq (hG K) _ (brief13_c hb) rfl ?_|refine cl_eq (hG K) _ (sanity6_c) rfl ?_)<;>try simp (disch:=first|exact bk rfl|omega|(simp only [ln];omega)|(simp only [go_sem];done)|decide) only [go_sem,Nat.reduceAdd,Nat.reduceMul,Nat.reduceEqDiff,Nat.reduceLT,Nat.reduceLeDiff,reduceIte,eReply,h5,r5,h5_0,h5_2,h5_3,h1,h2])
   exact endQ_fro (.bool true) rfl
  | true=>
   obtain⟨s,e,hD⟩:=tlD_tup a
   have t1:=tell14_c (K:=K) ha (brief_of h1)
   have t2:=tell15_c (K:=K) ha (brief_of h1)
   rw [hD] at t1 t2
   have hbb:(sameB a b==sameB a b)=true:=by simp
   have haa:=sameB_refl a
   (try simp (disch:=first|exact bk rfl|omega|(simp only [ln];omega)|(simp only [go_sem];done)|decide) only [go_sem,Nat.reduceAdd,Nat.reduceMul,Nat.reduceEqDiff,Nat.reduceLT,Nat.reduceLeDiff,reduceIte,eReply,h5,r5,h5_0,h5_1,h5_2,h5_3,h5_4,h5_5,h1,h2,hbb,haa,eqbool,avs_of ha.l,avs_of ha.p,avs_of ha.g,avs_of ha.f,avs_of hb.l,avs_of hb.p,avs_of hb.g,avs_of hb.f]);repeat' first|((with_reducible first|apply gJoin_split|apply cond_split|apply gJoinD_split)<;>intro h<;>(try simp only [spl] at h)<;>try simp (disch:=first|exact bk rfl|omega|(simp only [ln];omega)|(simp only [go_sem];done)|decide) only [go_sem,Nat.reduceAdd,Nat.reduceMul,Nat.reduceEqDiff,Nat.reduceLT,Nat.reduceLeDiff,reduceIte,eReply,h5,r5,h5_0,h5_1,h5_2,h5_3,h5_4,h5_5,h1,h2,hbb,haa,eqbool,avs_of ha.l,avs_of ha.p,avs_of ha.g,avs_of ha.f,avs_of hb.l,avs_of hb.p,avs_of hb.g,avs_of hb.f,h])|((with_reducible refine cl_guard ?_;first|refine cl_eq (hG K) _ (brief13_c ha) rfl ?_|refine cl_eq (hG K) _ (brief13_c hb) rfl ?_|refine cl_eq (hG K) _ (t1) rfl ?_|refine cl_eq (hG K) _ (t2) rfl ?_|refine cl_eq (hG K) _ (same16_c ha hb) rfl ?_|refine cl_eq (hG K) _ (same17_c ha hb) rfl ?_|refine cl_eq (hG K) _ (same16_c ha ha) rfl ?_|refine cl_eq (hG K) _ (sanity6_c) rfl ?_)<;>try simp (disch:=first|exact bk rfl|omega|(simp only [ln];omega)|(simp only [go_sem];done)|decide) only [go_sem,Nat.reduceAdd,Nat.reduceMul,Nat.reduceEqDiff,Nat.reduceLT,Nat.reduceLeDiff,reduceIte,eReply,h5,r5,h5_0,h5_1,h5_2,h5_3,h5_4,h5_5,h1,h2,hbb,haa,eqbool,avs_of ha.l,avs_of ha.p,avs_of ha.g,avs_of ha.f,avs_of hb.l,avs_of hb.p,avs_of hb.g,avs_of hb.f])
   exact endQ_fro (.bool true) rfl
end Go.S9
namespace Go.Proofs.YtmmghibnfjfnbaaGreatDoor
open Go Go.ChangeShapes Go.WideShapes Go.ChangeAt Go.WideMaps Go.WideElems Go.RowKit
set_option maxRecDepth 1000000
set_option linter.unusedVariables false
theorem law_calls {H:Type} {enc:TypeId×Value→H} {W:World} {v0 v1:Value} {d0 d1:DataW H} {p0 p1:List MemPlace} {K:Int} (hg:Go.Ev.GlobOK (Go.S9.G K) W)
  (k0:∃cs,v0= .agg cs) (k1:∃cs,v1= .agg cs)
  (h0:DataW.Trod enc Tryz.prog W 0 (fun _=>true) true 47 v0 d0 p0) (h1:DataW.Trod enc Tryz.prog W 0 (fun _=>true) true 47 v1 d1 p1):
  Calls Tryz.prog 5 #[v0,v1] W fun e W'=>e= .returned (.bool true)∧Below W.heap.size W W':=by
 obtain⟨cs0,rfl⟩:=k0
 obtain⟨cs1,rfl⟩:=k1
 obtain⟨f0,h0⟩:=h0
 obtain⟨f1,h1⟩:=h1
 have hb:Go.S9.Blk0 W:=by
  obtain⟨arr,el,fz,h, -⟩:=hg 7 Go.S9.deB rfl
  exact⟨7,arr,el,fz,h⟩
 obtain⟨a,ha,L0,hc⟩:=Go.S9.rd47 hb h0
 obtain⟨b,hb',L1,hd⟩:=Go.S9.rd47 hb h1
 have hall:Go.Ev.DVs (Go.Ev.hpz W) true [.agg (Go.S9.eReply a), .agg (Go.S9.eReply b)] (#[Value.agg cs0, .agg cs1]:Array Value).toList (L0++(L1++[])):=
  .cons _ _ _ _ _ _ (.agg _ _ _ hc) (.cons _ _ _ _ _ _ (.agg _ _ _ hd) .nil)
 have:=Go.S9.law5_c (K:=K) ha hb' W _ _ hg hall
 refine (callsIn_wide.1 this).mono fun e W' ⟨v,d,M,he,hq,hv,_,hbel⟩=> ?_
 subst he hq
 cases hv
 exact⟨rfl,hbel⟩
theorem wrap_shaped {H:Type} {enc:TypeId×Value→H} {a:Assume} {C:Checked} {os:Os} {f:FuncId} {fn:Func} {s:ChangeSpec} {conds:List PathCond} {apart fresh handsOn again:Bool} {X:World→Array Value→Prop}
  (hX:∀(w w':World) (args:Array Value),w.heap=w'.heap→X w args→X w' args)
  (own:ownKnob C.prog.godebug=none) (started:os.Started) (noInit:C.prog.inits.idxOf? f=none) (hfn:C.prog.funcs[f]? =some fn)
  (witness:∃(w:World) (tape:Tape) (i:Input),w.os=os∧(w.forCall tape i).Shaped C.prog∧i.vars=[]∧Input.okWide C.prog (w.forCall tape i) .any w.heap.size f i∧
   ((s.pre enc C.prog fn conds apart (w.forCall tape i).memory i.args∧X (w.forCall tape i).memory i.args)∧sizedMet enc C.prog fn (OpenSpec.ofChange s) apart (w.forCall tape i).memory i.args)∧a.holds C.prog (lone (Frame.enter C.prog f i.args .normal) [] (w.forCall tape i)))
  (contract:∀(W:World) (base:Nat) (args:Array Value) (ds gs:List (DataW H)) (before:List MemPlace),
   (∀(j:Nat) t v,fn.params[j]? =some t→args[j]? =some v→Value.okWide C.prog W .any base t v)→
   DataW.Whole enc C.prog fn.params.toList s.vars apart W args.toList ds gs before→X W args→W.ShapedOpen C.prog→
   Calls C.prog f args W fun e W'=>∃v,e= .returned v∧s.post enc C.prog fn apart fresh handsOn again W args v W'):
  ReturnsInHanded a C os f .any (fun w args=>(s.pre enc C.prog fn conds apart w args∧X w args)∧sizedMet enc C.prog fn (OpenSpec.ofChange s) apart w args) (s.post enc C.prog fn apart fresh handsOn again):=by
 refine returnsInHanded_of_calls own started noInit witness ?_
 intro w tape i _ hsh _ hok hpre hholds
 obtain⟨_,_,_,fn',hfn',_,_,_,_,hval⟩:=hok
 have e:fn'=fn:=Option.some.inj (hfn'.symm.trans hfn)
 subst e
 obtain⟨⟨⟨ds,gs,before,hw,hc⟩,hx⟩,hz⟩:=hpre
 have hw':=DataW.Whole.of_heap (w':=w.forCall tape i) (by rfl) hw
 refine (contract (w.forCall tape i) w.heap.size i.args ds gs before hval hw' (hX _ _ _ (by rfl) hx) hsh).mono fun e W' ⟨v,he,hp⟩=> ?_
 subst he
 exact ChangeSpec.post_blind hp
end Go.Proofs.YtmmghibnfjfnbaaGreatDoor
