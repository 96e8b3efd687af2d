import Derived.Test.YtlkhjkbepijegaaGreatDoorQuFn
import Derived.Test.YtlkhjkbepijegaaGreatDoorBs
import Derived.Test.YtlkhjkbepijegaaGreatDoorAbV
import Derived.Test.YtlkhjkbepijegaaGreatDoorAbQ
namespace Go.Proofs.YtlkhjkbepijegaaGreatDoor.qu
open Go Go.Ab Go.Ab.F
set_option linter.all false
theorem okT0:CallOk Tryz.prog (lookT T0):=lookT_nil
theorem D6 (a:AV)(h:Heap):A5 a h=bodyK Tryz.prog (lookT T0) ann 59 [a] h:=by kernel_rfl
theorem okT1:CallOk Tryz.prog (lookT T1):=lookT_cons good mixed okT0 (of_p1 D6)
theorem EM (a:AV)(h:Heap):BG a h=bodyK Tryz.prog (lookT T1) ann 181 [a] h:=by kernel_rfl
theorem okT2:CallOk Tryz.prog (lookT T2):=lookT_cons good mixed okT1 (of_p1 EM)
theorem Em (a b:AV)(h:Heap):Av a b h=bodyK Tryz.prog (lookT T2) ann 31 [a,b] h:=by kernel_rfl
theorem okT3:CallOk Tryz.prog (lookT T3):=lookT_cons good mixed okT2 (of_p2 Em)
theorem EP (a b:AV)(h:Heap):Ah a b h=bodyK Tryz.prog (lookT T3) ann 90 [a,b] h:=by kernel_rfl
theorem okT4:CallOk Tryz.prog (lookT T4):=lookT_cons good mixed okT3 (of_p2 EP)
theorem Gb (a:AV)(h:Heap):Dn a h=bodyK Tryz.prog (lookT T4) ann 69 [a] h:=by kernel_rfl
theorem okT5:CallOk Tryz.prog (lookT T5):=lookT_cons good mixed okT4 (of_p1 Gb)
theorem Gg (h:Heap):D5 h=bodyK Tryz.prog (lookT T5) ann 70 [] h:=by kernel_rfl
theorem okT6:CallOk Tryz.prog (lookT T6):=lookT_cons good mixed okT5 (of_p0 Gg)
theorem Eh (a:AV)(h:Heap):Bx a h=bodyK Tryz.prog (lookT T6) ann 110 [a] h:=by kernel_rfl
theorem okT7:CallOk Tryz.prog (lookT T7):=lookT_cons good mixed okT6 (of_p1 Eh)
theorem GQ (a:AV)(h:Heap):Dm a h=bodyK Tryz.prog (lookT T7) ann 71 [a] h:=by kernel_rfl
theorem okT8:CallOk Tryz.prog (lookT T8):=lookT_cons good mixed okT7 (of_p1 GQ)
theorem Gf (h:Heap):FV h=bodyK Tryz.prog (lookT T8) ann 111 [] h:=by kernel_rfl
theorem okT9:CallOk Tryz.prog (lookT T9):=lookT_cons good mixed okT8 (of_p0 Gf)
theorem Gc (a b:AV)(h:Heap):D4 a b h=bodyK Tryz.prog (lookT T9) ann 72 [a,b] h:=by kernel_rfl
theorem okT10:CallOk Tryz.prog (lookT T10):=lookT_cons good mixed okT9 (of_p2 Gc)
theorem GO (a:AV)(h:Heap):DH a h=bodyK Tryz.prog (lookT T10) ann 24 [a] h:=by kernel_rfl
theorem okT11:CallOk Tryz.prog (lookT T11):=lookT_cons good mixed okT10 (of_p1 GO)
theorem El (a:AV)(h:Heap):AR a h=bodyK Tryz.prog (lookT T11) ann 15 [a] h:=by kernel_rfl
theorem okT12:CallOk Tryz.prog (lookT T12):=lookT_cons good mixed okT11 (of_p1 El)
theorem ET (a:AV)(h:Heap):AU a h=bodyK Tryz.prog (lookT T12) ann 25 [a] h:=by kernel_rfl
theorem okT13:CallOk Tryz.prog (lookT T13):=lookT_cons good mixed okT12 (of_p1 ET)
theorem EC (a:AV)(h:Heap):Ct a h=bodyK Tryz.prog (lookT T13) ann 18 [a] h:=by kernel_rfl
theorem okT14:CallOk Tryz.prog (lookT T14):=lookT_cons good mixed okT13 (of_p1 EC)
theorem GH (a:AV)(h:Heap):AM a h=bodyK Tryz.prog (lookT T14) ann 63 [a] h:=by kernel_rfl
theorem okT15:CallOk Tryz.prog (lookT T15):=lookT_cons good mixed okT14 (of_p1 GH)
theorem GG (a:AV)(h:Heap):DU a h=bodyK Tryz.prog (lookT T15) ann 112 [a] h:=by kernel_rfl
theorem okT16:CallOk Tryz.prog (lookT T16):=lookT_cons good mixed okT15 (of_p1 GG)
theorem Fe (a b:AV)(h:Heap):BN a b h=bodyK Tryz.prog (lookT T16) ann 109 [a,b] h:=by kernel_rfl
theorem okT17:CallOk Tryz.prog (lookT T17):=lookT_cons good mixed okT16 (of_p2 Fe)
theorem EY (a b:AV)(h:Heap):AB a b h=bodyK Tryz.prog (lookT T17) ann 64 [a,b] h:=by kernel_rfl
theorem okT18:CallOk Tryz.prog (lookT T18):=lookT_cons good mixed okT17 (of_p2 EY)
theorem Eo (a:AV)(h:Heap):B3 a h=bodyK Tryz.prog (lookT T18) ann 127 [a] h:=by kernel_rfl
theorem okT19:CallOk Tryz.prog (lookT T19):=lookT_cons good mixed okT18 (of_p1 Eo)
theorem GU (a:AV)(h:Heap):DG a h=bodyK Tryz.prog (lookT T19) ann 102 [a] h:=by kernel_rfl
theorem okT20:CallOk Tryz.prog (lookT T20):=lookT_cons good mixed okT19 (of_p1 GU)
theorem Ee (a b:AV)(h:Heap):Au a b h=bodyK Tryz.prog (lookT T20) ann 126 [a,b] h:=by kernel_rfl
theorem okT21:CallOk Tryz.prog (lookT T21):=lookT_cons good mixed okT20 (of_p2 Ee)
theorem EX (a b:AV)(h:Heap):As a b h=bodyK Tryz.prog (lookT T21) ann 101 [a,b] h:=by kernel_rfl
theorem okT22:CallOk Tryz.prog (lookT T22):=lookT_cons good mixed okT21 (of_p2 EX)
theorem EW (a b:AV)(h:Heap):Aw a b h=bodyK Tryz.prog (lookT T22) ann 22 [a,b] h:=by kernel_rfl
theorem okT23:CallOk Tryz.prog (lookT T23):=lookT_cons good mixed okT22 (of_p2 EW)
theorem F4 (a:AV)(h:Heap):CU a h=bodyK Tryz.prog (lookT T23) ann 131 [a] h:=by kernel_rfl
theorem okT24:CallOk Tryz.prog (lookT T24):=lookT_cons good mixed okT23 (of_p1 F4)
theorem F8 (a b:AV)(h:Heap):Br a b h=bodyK Tryz.prog (lookT T24) ann 122 [a,b] h:=by kernel_rfl
theorem okT25:CallOk Tryz.prog (lookT T25):=lookT_cons good mixed okT24 (of_p2 F8)
theorem GN (a:AV)(h:Heap):CC a h=bodyK Tryz.prog (lookT T25) ann 123 [a] h:=by kernel_rfl
theorem okT26:CallOk Tryz.prog (lookT T26):=lookT_cons good mixed okT25 (of_p1 GN)
theorem GX (a b c d:AV)(h:Heap):CS a b c d h=bodyK Tryz.prog (lookT T26) ann 85 [a,b,c,d] h:=by kernel_rfl
theorem okT27:CallOk Tryz.prog (lookT T27):=lookT_cons good mixed okT26 (of_p4 GX)
theorem GS (a:AV)(h:Heap):EN a h=bodyK Tryz.prog (lookT T27) ann 113 [a] h:=by kernel_rfl
theorem okT28:CallOk Tryz.prog (lookT T28):=lookT_cons good mixed okT27 (of_p1 GS)
theorem Du (a:AV)(h:Heap):AQ a h=bodyK Tryz.prog (lookT T28) ann 144 [a] h:=by kernel_rfl
theorem okT29:CallOk Tryz.prog (lookT T29):=lookT_cons good mixed okT28 (of_p1 Du)
theorem GL (a:AV)(h:Heap):DV a h=bodyK Tryz.prog (lookT T29) ann 132 [a] h:=by kernel_rfl
theorem okT30:CallOk Tryz.prog (lookT T30):=lookT_cons good mixed okT29 (of_p1 GL)
theorem GT (a b c:AV)(h:Heap):Ds a b c h=bodyK Tryz.prog (lookT T30) ann 133 [a,b,c] h:=by kernel_rfl
theorem okT31:CallOk Tryz.prog (lookT T31):=lookT_cons good mixed okT30 (of_p3 GT)
theorem FA (a b:AV)(h:Heap):Ao a b h=bodyK Tryz.prog (lookT T31) ann 114 [a,b] h:=by kernel_rfl
theorem okT32:CallOk Tryz.prog (lookT T32):=lookT_cons good mixed okT31 (of_p2 FA)
theorem FW (a b c:AV)(h:Heap):Ay a b c h=bodyK Tryz.prog (lookT T32) ann 134 [a,b,c] h:=by kernel_rfl
theorem okT33:CallOk Tryz.prog (lookT T33):=lookT_cons good mixed okT32 (of_p3 FW)
theorem EZ (a b c:AV)(h:Heap):BP a b c h=bodyK Tryz.prog (lookT T33) ann 115 [a,b,c] h:=by kernel_rfl
theorem okT34:CallOk Tryz.prog (lookT T34):=lookT_cons good mixed okT33 (of_p3 EZ)
theorem FQ (a b:AV)(h:Heap):CB a b h=bodyK Tryz.prog (lookT T34) ann 73 [a,b] h:=by kernel_rfl
theorem okT35:CallOk Tryz.prog (lookT T35):=lookT_cons good mixed okT34 (of_p2 FQ)
theorem EJ (a:AV)(h:Heap):AH a h=bodyK Tryz.prog (lookT T35) ann 74 [a] h:=by kernel_rfl
theorem okT36:CallOk Tryz.prog (lookT T36):=lookT_cons good mixed okT35 (of_p1 EJ)
theorem GY (a:AV)(h:Heap):CT a h=bodyK Tryz.prog (lookT T36) ann 65 [a] h:=by kernel_rfl
theorem okT37:CallOk Tryz.prog (lookT T37):=lookT_cons good mixed okT36 (of_p1 GY)
theorem GJ (a b:AV)(h:Heap):CR a b h=bodyK Tryz.prog (lookT T37) ann 103 [a,b] h:=by kernel_rfl
theorem okT38:CallOk Tryz.prog (lookT T38):=lookT_cons good mixed okT37 (of_p2 GJ)
theorem FB (a b:AV)(h:Heap):AX a b h=bodyK Tryz.prog (lookT T38) ann 58 [a,b] h:=by kernel_rfl
theorem okT39:CallOk Tryz.prog (lookT T39):=lookT_cons good mixed okT38 (of_p2 FB)
theorem Es (a b:AV)(h:Heap):Al a b h=bodyK Tryz.prog (lookT T39) ann 75 [a,b] h:=by kernel_rfl
theorem okT40:CallOk Tryz.prog (lookT T40):=lookT_cons good mixed okT39 (of_p2 Es)
theorem Ew (a b:AV)(h:Heap):BD a b h=bodyK Tryz.prog (lookT T40) ann 26 [a,b] h:=by kernel_rfl
theorem okT41:CallOk Tryz.prog (lookT T41):=lookT_cons good mixed okT40 (of_p2 Ew)
theorem EV (a:AV)(h:Heap):B1 a h=bodyK Tryz.prog (lookT T41) ann 51 [a] h:=by kernel_rfl
theorem okT42:CallOk Tryz.prog (lookT T42):=lookT_cons good mixed okT41 (of_p1 EV)
theorem Fw (a b:AV)(h:Heap):Cb a b h=bodyK Tryz.prog (lookT T42) ann 116 [a,b] h:=by kernel_rfl
theorem okT43:CallOk Tryz.prog (lookT T43):=lookT_cons good mixed okT42 (of_p2 Fw)
theorem EU (a b:AV)(h:Heap):AW a b h=bodyK Tryz.prog (lookT T43) ann 76 [a,b] h:=by kernel_rfl
theorem okT44:CallOk Tryz.prog (lookT T44):=lookT_cons good mixed okT43 (of_p2 EU)
theorem ES (a b:AV)(h:Heap):Ar a b h=bodyK Tryz.prog (lookT T44) ann 52 [a,b] h:=by kernel_rfl
theorem okT45:CallOk Tryz.prog (lookT T45):=lookT_cons good mixed okT44 (of_p2 ES)
theorem Ek (a b:AV)(h:Heap):AO a b h=bodyK Tryz.prog (lookT T45) ann 11 [a,b] h:=by kernel_rfl
theorem okT46:CallOk Tryz.prog (lookT T46):=lookT_cons good mixed okT45 (of_p2 Ek)
theorem Eq (a:AV)(h:Heap):AP a h=bodyK Tryz.prog (lookT T46) ann 12 [a] h:=by kernel_rfl
theorem okT47:CallOk Tryz.prog (lookT T47):=lookT_cons good mixed okT46 (of_p1 Eq)
theorem Dz (a:AV)(h:Heap):Ap a h=bodyK Tryz.prog (lookT T47) ann 98 [a] h:=by kernel_rfl
theorem okT48:CallOk Tryz.prog (lookT T48):=lookT_cons good mixed okT47 (of_p1 Dz)
theorem Dc (a b:AV)(h:Heap):Aj a b h=bodyK Tryz.prog (lookT T48) ann 125 [a,b] h:=by kernel_rfl
theorem okT49:CallOk Tryz.prog (lookT T49):=lookT_cons good mixed okT48 (of_p2 Dc)
theorem DT (a b:AV)(h:Heap):Ae a b h=bodyK Tryz.prog (lookT T49) ann 97 [a,b] h:=by kernel_rfl
theorem okT50:CallOk Tryz.prog (lookT T50):=lookT_cons good mixed okT49 (of_p2 DT)
theorem EF (a:AV)(h:Heap):Bo a h=bodyK Tryz.prog (lookT T50) ann 99 [a] h:=by kernel_rfl
theorem okT51:CallOk Tryz.prog (lookT T51):=lookT_cons good mixed okT50 (of_p1 EF)
theorem FL (a b:AV)(h:Heap):Bh a b h=bodyK Tryz.prog (lookT T51) ann 53 [a,b] h:=by kernel_rfl
theorem okT52:CallOk Tryz.prog (lookT T52):=lookT_cons good mixed okT51 (of_p2 FL)
theorem D0 (a b:AV)(h:Heap):B4 a b h=bodyK Tryz.prog (lookT T52) ann 117 [a,b] h:=by kernel_rfl
theorem okT53:CallOk Tryz.prog (lookT T53):=lookT_cons good mixed okT52 (of_p2 D0)
theorem Dl (a b:AV)(h:Heap):Aq a b h=bodyK Tryz.prog (lookT T53) ann 77 [a,b] h:=by kernel_rfl
theorem okT54:CallOk Tryz.prog (lookT T54):=lookT_cons good mixed okT53 (of_p2 Dl)
theorem FO (a b c:AV)(h:Heap):AZ a b c h=bodyK Tryz.prog (lookT T54) ann 30 [a,b,c] h:=by kernel_rfl
theorem okT55:CallOk Tryz.prog (lookT T55):=lookT_cons good mixed okT54 (of_p3 FO)
theorem Fo (a:AV)(h:Heap):CL a h=bodyK Tryz.prog (lookT T55) ann 100 [a] h:=by kernel_rfl
theorem okT56:CallOk Tryz.prog (lookT T56):=lookT_cons good mixed okT55 (of_p1 Fo)
theorem FT (a b c:AV)(h:Heap):Ad a b c h=bodyK Tryz.prog (lookT T56) ann 107 [a,b,c] h:=by kernel_rfl
theorem okT57:CallOk Tryz.prog (lookT T57):=lookT_cons good mixed okT56 (of_p3 FT)
theorem FS (a b c:AV)(h:Heap):Aa a b c h=bodyK Tryz.prog (lookT T57) ann 61 [a,b,c] h:=by kernel_rfl
theorem okT58:CallOk Tryz.prog (lookT T58):=lookT_cons good mixed okT57 (of_p3 FS)
theorem GF (a b c:AV)(h:Heap):Bf a b c h=bodyK Tryz.prog (lookT T58) ann 108 [a,b,c] h:=by kernel_rfl
theorem okT59:CallOk Tryz.prog (lookT T59):=lookT_cons good mixed okT58 (of_p3 GF)
theorem Gd (a:AV)(h:Heap):CP a h=bodyK Tryz.prog (lookT T59) ann 84 [a] h:=by kernel_rfl
theorem okT60:CallOk Tryz.prog (lookT T60):=lookT_cons good mixed okT59 (of_p1 Gd)
theorem F5 (a:AV)(h:Heap):Cs a h=bodyK Tryz.prog (lookT T60) ann 62 [a] h:=by kernel_rfl
theorem okT61:CallOk Tryz.prog (lookT T61):=lookT_cons good mixed okT60 (of_p1 F5)
theorem FG (a b:AV)(h:Heap):An a b h=bodyK Tryz.prog (lookT T61) ann 66 [a,b] h:=by kernel_rfl
theorem okT62:CallOk Tryz.prog (lookT T62):=lookT_cons good mixed okT61 (of_p2 FG)
theorem Ey (a b c:AV)(h:Heap):AE a b c h=bodyK Tryz.prog (lookT T62) ann 67 [a,b,c] h:=by kernel_rfl
theorem okT63:CallOk Tryz.prog (lookT T63):=lookT_cons good mixed okT62 (of_p3 Ey)
theorem EG (a b:AV)(h:Heap):BH a b h=bodyK Tryz.prog (lookT T63) ann 19 [a,b] h:=by kernel_rfl
theorem okT64:CallOk Tryz.prog (lookT T64):=lookT_cons good mixed okT63 (of_p2 EG)
theorem E8 (a:AV)(h:Heap):BF a h=bodyK Tryz.prog (lookT T64) ann 54 [a] h:=by kernel_rfl
theorem okT65:CallOk Tryz.prog (lookT T65):=lookT_cons good mixed okT64 (of_p1 E8)
theorem Ea (a:AV)(h:Heap):B0 a h=bodyK Tryz.prog (lookT T65) ann 55 [a] h:=by kernel_rfl
theorem okT66:CallOk Tryz.prog (lookT T66):=lookT_cons good mixed okT65 (of_p1 Ea)
theorem D2 (a:AV)(h:Heap):BJ a h=bodyK Tryz.prog (lookT T66) ann 56 [a] h:=by kernel_rfl
theorem okT67:CallOk Tryz.prog (lookT T67):=lookT_cons good mixed okT66 (of_p1 D2)
theorem FH (a:AV)(h:Heap):Bm a h=bodyK Tryz.prog (lookT T67) ann 57 [a] h:=by kernel_rfl
theorem okT68:CallOk Tryz.prog (lookT T68):=lookT_cons good mixed okT67 (of_p1 FH)
theorem FF (a b:AV)(h:Heap):AC a b h=bodyK Tryz.prog (lookT T68) ann 13 [a,b] h:=by kernel_rfl
theorem okT69:CallOk Tryz.prog (lookT T69):=lookT_cons good mixed okT68 (of_p2 FF)
theorem D9 (a b c d:AV)(h:Heap):AL a b c d h=bodyK Tryz.prog (lookT T69) ann 27 [a,b,c,d] h:=by kernel_rfl
theorem okT70:CallOk Tryz.prog (lookT T70):=lookT_cons good mixed okT69 (of_p4 D9)
theorem E9 (a b:AV)(h:Heap):BA a b h=bodyK Tryz.prog (lookT T70) ann 28 [a,b] h:=by kernel_rfl
theorem okT71:CallOk Tryz.prog (lookT T71):=lookT_cons good mixed okT70 (of_p2 E9)
theorem Et (a b:AV)(h:Heap):Bl a b h=bodyK Tryz.prog (lookT T71) ann 29 [a,b] h:=by kernel_rfl
theorem okT72:CallOk Tryz.prog (lookT T72):=lookT_cons good mixed okT71 (of_p2 Et)
theorem Eb (a b:AV)(h:Heap):BO a b h=bodyK Tryz.prog (lookT T72) ann 20 [a,b] h:=by kernel_rfl
theorem okT73:CallOk Tryz.prog (lookT T73):=lookT_cons good mixed okT72 (of_p2 Eb)
theorem FK (a:AV)(h:Heap):Bi a h=bodyK Tryz.prog (lookT T73) ann 14 [a] h:=by kernel_rfl
theorem okT74:CallOk Tryz.prog (lookT T74):=lookT_cons good mixed okT73 (of_p1 FK)
theorem Ed (a:AV)(h:Heap):C0 a h=bodyK Tryz.prog (lookT T74) ann 32 [a] h:=by kernel_rfl
theorem okT75:CallOk Tryz.prog (lookT T75):=lookT_cons good mixed okT74 (of_p1 Ed)
theorem Fx (a b:AV)(h:Heap):Db a b h=bodyK Tryz.prog (lookT T75) ann 16 [a,b] h:=by kernel_rfl
theorem okT76:CallOk Tryz.prog (lookT T76):=lookT_cons good mixed okT75 (of_p2 Fx)
theorem F7 (h:Heap):EE h=bodyK Tryz.prog (lookT T76) ann 8 [] h:=by kernel_rfl
theorem GA:isTrue (EE hQ1)=true:=by kernel_rfl
theorem okT77R:CallOk Tryz.prog (lookT ((8,p0 EE)::T76)):=lookT_cons good mixed okT76 (of_p0 F7)
theorem okT77:CallOk Tryz.prog (lookT T77):=by
 obtain⟨g,hg⟩:=isTrue_some GA
 exact lookT_quiet0 okT76 okT77R (base1 oneGlobal) hg rfl
theorem F2 (a:AV)(h:Heap):Cl a h=bodyK Tryz.prog (lookT T77) ann 78 [a] h:=by kernel_rfl
theorem okT78:CallOk Tryz.prog (lookT T78):=lookT_cons good mixed okT77 (of_p1 F2)
theorem F1 (a:AV)(h:Heap):Cp a h=bodyK Tryz.prog (lookT T78) ann 79 [a] h:=by kernel_rfl
theorem okT79:CallOk Tryz.prog (lookT T79):=lookT_cons good mixed okT78 (of_p1 F1)
theorem F0 (a:AV)(h:Heap):Cq a h=bodyK Tryz.prog (lookT T79) ann 33 [a] h:=by kernel_rfl
theorem okT80:CallOk Tryz.prog (lookT T80):=lookT_cons good mixed okT79 (of_p1 F0)
theorem GD (h:Heap):C6 h=bodyK Tryz.prog (lookT T80) ann 34 [] h:=by kernel_rfl
theorem okT81:CallOk Tryz.prog (lookT T81):=lookT_cons good mixed okT80 (of_p0 GD)
theorem GR (a:AV)(h:Heap):Cg a h=bodyK Tryz.prog (lookT T81) ann 80 [a] h:=by kernel_rfl
theorem okT82:CallOk Tryz.prog (lookT T82):=lookT_cons good mixed okT81 (of_p1 GR)
theorem Ef (a b:AV)(h:Heap):Bz a b h=bodyK Tryz.prog (lookT T82) ann 35 [a,b] h:=by kernel_rfl
theorem okT83:CallOk Tryz.prog (lookT T83):=lookT_cons good mixed okT82 (of_p2 Ef)
theorem EO (a b:AV)(h:Heap):Bq a b h=bodyK Tryz.prog (lookT T83) ann 36 [a,b] h:=by kernel_rfl
theorem okT84:CallOk Tryz.prog (lookT T84):=lookT_cons good mixed okT83 (of_p2 EO)
theorem GI (a:AV)(h:Heap):DW a h=bodyK Tryz.prog (lookT T84) ann 9 [a] h:=by kernel_rfl
theorem okT85:CallOk Tryz.prog (lookT T85):=lookT_cons good mixed okT84 (of_p1 GI)
theorem GW (a:AV)(h:Heap):C2 a h=bodyK Tryz.prog (lookT T85) ann 37 [a] h:=by kernel_rfl
theorem okT86:CallOk Tryz.prog (lookT T86):=lookT_cons good mixed okT85 (of_p1 GW)
theorem GE (a:AV)(h:Heap):BZ a h=bodyK Tryz.prog (lookT T86) ann 135 [a] h:=by kernel_rfl
theorem okT87:CallOk Tryz.prog (lookT T87):=lookT_cons good mixed okT86 (of_p1 GE)
theorem GM (a:AV)(h:Heap):DN a h=bodyK Tryz.prog (lookT T87) ann 118 [a] h:=by kernel_rfl
theorem okT88:CallOk Tryz.prog (lookT T88):=lookT_cons good mixed okT87 (of_p1 GM)
theorem GP (a:AV)(h:Heap):C3 a h=bodyK Tryz.prog (lookT T88) ann 145 [a] h:=by kernel_rfl
theorem okT89:CallOk Tryz.prog (lookT T89):=lookT_cons good mixed okT88 (of_p1 GP)
theorem FD (a b:AV)(h:Heap):BC a b h=bodyK Tryz.prog (lookT T89) ann 136 [a,b] h:=by kernel_rfl
theorem okT90:CallOk Tryz.prog (lookT T90):=lookT_cons good mixed okT89 (of_p2 FD)
theorem FP (a b:AV)(h:Heap):Am a b h=bodyK Tryz.prog (lookT T90) ann 119 [a,b] h:=by kernel_rfl
theorem okT91:CallOk Tryz.prog (lookT T91):=lookT_cons good mixed okT90 (of_p2 FP)
theorem F6 (a:AV)(h:Heap):B5 a h=bodyK Tryz.prog (lookT T91) ann 137 [a] h:=by kernel_rfl
theorem okT92:CallOk Tryz.prog (lookT T92):=lookT_cons good mixed okT91 (of_p1 F6)
theorem Ga (a b c:AV)(h:Heap):Dq a b c h=bodyK Tryz.prog (lookT T92) ann 138 [a,b,c] h:=by kernel_rfl
theorem okT93:CallOk Tryz.prog (lookT T93):=lookT_cons good mixed okT92 (of_p3 Ga)
theorem FY (a b:AV)(h:Heap):A4 a b h=bodyK Tryz.prog (lookT T93) ann 87 [a,b] h:=by kernel_rfl
theorem okT94:CallOk Tryz.prog (lookT T94):=lookT_cons good mixed okT93 (of_p2 FY)
theorem Ft (a b:AV)(h:Heap):BM a b h=bodyK Tryz.prog (lookT T94) ann 120 [a,b] h:=by kernel_rfl
theorem okT95:CallOk Tryz.prog (lookT T95):=lookT_cons good mixed okT94 (of_p2 Ft)
theorem Fm (a b c:AV)(h:Heap):Bu a b c h=bodyK Tryz.prog (lookT T95) ann 121 [a,b,c] h:=by kernel_rfl
theorem okT96:CallOk Tryz.prog (lookT T96):=lookT_cons good mixed okT95 (of_p3 Fm)
theorem Fk (a b:AV)(h:Heap):CM a b h=bodyK Tryz.prog (lookT T96) ann 81 [a,b] h:=by kernel_rfl
theorem okT97:CallOk Tryz.prog (lookT T97):=lookT_cons good mixed okT96 (of_p2 Fk)
theorem EL (a:AV)(h:Heap):AK a h=bodyK Tryz.prog (lookT T97) ann 82 [a] h:=by kernel_rfl
theorem okT98:CallOk Tryz.prog (lookT T98):=lookT_cons good mixed okT97 (of_p1 EL)
theorem Ff (a b:AV)(h:Heap):Bt a b h=bodyK Tryz.prog (lookT T98) ann 83 [a,b] h:=by kernel_rfl
theorem okT99:CallOk Tryz.prog (lookT T99):=lookT_cons good mixed okT98 (of_p2 Ff)
theorem Fp (a b:AV)(h:Heap):CK a b h=bodyK Tryz.prog (lookT T99) ann 38 [a,b] h:=by kernel_rfl
theorem okT100:CallOk Tryz.prog (lookT T100):=lookT_cons good mixed okT99 (of_p2 Fp)
theorem GV (a:AV)(h:Heap):Dt a h=bodyK Tryz.prog (lookT T100) ann 39 [a] h:=by kernel_rfl
theorem okT101:CallOk Tryz.prog (lookT T101):=lookT_cons good mixed okT100 (of_p1 GV)
theorem Ej (a b c d:AV)(h:Heap):Ag a b c d h=bodyK Tryz.prog (lookT T101) ann 86 [a,b,c,d] h:=by kernel_rfl
theorem okT102:CallOk Tryz.prog (lookT T102):=lookT_cons good mixed okT101 (of_p4 Ej)
theorem Fa (a b c d:AV)(h:Heap):Bw a b c d h=bodyK Tryz.prog (lookT T102) ann 40 [a,b,c,d] h:=by kernel_rfl
theorem okT103:CallOk Tryz.prog (lookT T103):=lookT_cons good mixed okT102 (of_p4 Fa)
theorem FZ (a:AV)(h:Heap):Az a h=bodyK Tryz.prog (lookT T103) ann 42 [a] h:=by kernel_rfl
theorem okT104:CallOk Tryz.prog (lookT T104):=lookT_cons good mixed okT103 (of_p1 FZ)
theorem FE (a:AV)(h:Heap):Bj a h=bodyK Tryz.prog (lookT T104) ann 88 [a] h:=by kernel_rfl
theorem okT105:CallOk Tryz.prog (lookT T105):=lookT_cons good mixed okT104 (of_p1 FE)
theorem Ei (a b:AV)(h:Heap):AF a b h=bodyK Tryz.prog (lookT T105) ann 89 [a,b] h:=by kernel_rfl
theorem okT106:CallOk Tryz.prog (lookT T106):=lookT_cons good mixed okT105 (of_p2 Ei)
theorem E0 (a b:AV)(h:Heap):Bk a b h=bodyK Tryz.prog (lookT T106) ann 41 [a,b] h:=by kernel_rfl
theorem okT107:CallOk Tryz.prog (lookT T107):=lookT_cons good mixed okT106 (of_p2 E0)
theorem EH (a b:AV)(h:Heap):AJ a b h=bodyK Tryz.prog (lookT T107) ann 96 [a,b] h:=by kernel_rfl
theorem okT108:CallOk Tryz.prog (lookT T108):=lookT_cons good mixed okT107 (of_p2 EH)
theorem Ez (a b:AV)(h:Heap):Bg a b h=bodyK Tryz.prog (lookT T108) ann 91 [a,b] h:=by kernel_rfl
theorem okT109:CallOk Tryz.prog (lookT T109):=lookT_cons good mixed okT108 (of_p2 Ez)
theorem Fq (a b c:AV)(h:Heap):Bv a b c h=bodyK Tryz.prog (lookT T109) ann 44 [a,b,c] h:=by kernel_rfl
theorem okT110:CallOk Tryz.prog (lookT T110):=lookT_cons good mixed okT109 (of_p3 Fq)
theorem GZ (a b c:AV)(h:Heap):C1 a b c h=bodyK Tryz.prog (lookT T110) ann 146 [a,b,c] h:=by kernel_rfl
theorem okT111:CallOk Tryz.prog (lookT T111):=lookT_cons good mixed okT110 (of_p3 GZ)
theorem GC (a:AV)(h:Heap):BS a h=bodyK Tryz.prog (lookT T111) ann 139 [a] h:=by kernel_rfl
theorem okT112:CallOk Tryz.prog (lookT T112):=lookT_cons good mixed okT111 (of_p1 GC)
theorem Ge (a b:AV)(h:Heap):Cr a b h=bodyK Tryz.prog (lookT T112) ann 68 [a,b] h:=by kernel_rfl
theorem okT113:CallOk Tryz.prog (lookT T113):=lookT_cons good mixed okT112 (of_p2 Ge)
theorem GK (a b c:AV)(h:Heap):Bb a b c h=bodyK Tryz.prog (lookT T113) ann 140 [a,b,c] h:=by kernel_rfl
theorem okT114:CallOk Tryz.prog (lookT T114):=lookT_cons good mixed okT113 (of_p3 GK)
theorem EK (a b:AV)(h:Heap):Bp a b h=bodyK Tryz.prog (lookT T114) ann 124 [a,b] h:=by kernel_rfl
theorem okT115:CallOk Tryz.prog (lookT T115):=lookT_cons good mixed okT114 (of_p2 EK)
theorem Eu (a:AV)(h:Heap):BB a h=bodyK Tryz.prog (lookT T115) ann 92 [a] h:=by kernel_rfl
theorem okT116:CallOk Tryz.prog (lookT T116):=lookT_cons good mixed okT115 (of_p1 Eu)
theorem D3 (a:AV)(h:Heap):BI a h=bodyK Tryz.prog (lookT T116) ann 93 [a] h:=by kernel_rfl
theorem okT117:CallOk Tryz.prog (lookT T117):=lookT_cons good mixed okT116 (of_p1 D3)
theorem D8 (a:AV)(h:Heap):Bc a h=bodyK Tryz.prog (lookT T117) ann 94 [a] h:=by kernel_rfl
theorem okT118:CallOk Tryz.prog (lookT T118):=lookT_cons good mixed okT117 (of_p1 D8)
theorem Fs (a:AV)(h:Heap):CN a h=bodyK Tryz.prog (lookT T118) ann 95 [a] h:=by kernel_rfl
theorem okT119:CallOk Tryz.prog (lookT T119):=lookT_cons good mixed okT118 (of_p1 Fs)
theorem Fb (a b:AV)(h:Heap):A0 a b h=bodyK Tryz.prog (lookT T119) ann 43 [a,b] h:=by kernel_rfl
theorem okT120:CallOk Tryz.prog (lookT T120):=lookT_cons good mixed okT119 (of_p2 Fb)
theorem FM (a b c:AV)(h:Heap):AY a b c h=bodyK Tryz.prog (lookT T120) ann 46 [a,b,c] h:=by kernel_rfl
theorem okT121:CallOk Tryz.prog (lookT T121):=lookT_cons good mixed okT120 (of_p3 FM)
theorem EI (a b c d:AV)(h:Heap):Ak a b c d h=bodyK Tryz.prog (lookT T121) ann 47 [a,b,c,d] h:=by kernel_rfl
theorem okT122:CallOk Tryz.prog (lookT T122):=lookT_cons good mixed okT121 (of_p4 EI)
theorem EQ (a b c:AV)(h:Heap):BQ a b c h=bodyK Tryz.prog (lookT T122) ann 45 [a,b,c] h:=by kernel_rfl
theorem okT123:CallOk Tryz.prog (lookT T123):=lookT_cons good mixed okT122 (of_p3 EQ)
theorem Fj (a b:AV)(h:Heap):CQ a b h=bodyK Tryz.prog (lookT T123) ann 48 [a,b] h:=by kernel_rfl
theorem okT124:CallOk Tryz.prog (lookT T124):=lookT_cons good mixed okT123 (of_p2 Fj)
theorem Fu (a b:AV)(h:Heap):BK a b h=bodyK Tryz.prog (lookT T124) ann 49 [a,b] h:=by kernel_rfl
theorem okT125:CallOk Tryz.prog (lookT T125):=lookT_cons good mixed okT124 (of_p2 Fu)
theorem Er (a b:AV)(h:Heap):B9 a b h=bodyK Tryz.prog (lookT T125) ann 50 [a,b] h:=by kernel_rfl
theorem okT126:CallOk Tryz.prog (lookT T126):=lookT_cons good mixed okT125 (of_p2 Er)
theorem Fy (a b:AV)(h:Heap):AA a b h=bodyK Tryz.prog (lookT T126) ann 10 [a,b] h:=by kernel_rfl
theorem okT127:CallOk Tryz.prog (lookT T127):=lookT_cons good mixed okT126 (of_p2 Fy)
theorem Fz (a b c:AV)(h:Heap):Ai a b c h=bodyK Tryz.prog (lookT T127) ann 3 [a,b,c] h:=by kernel_rfl
theorem okT128:CallOk Tryz.prog (lookT T128):=lookT_cons good mixed okT127 (of_p3 Fz)
noncomputable def tab:Tab:=T128
theorem okTab:CallOk Tryz.prog (lookT tab):=okT128
end Go.Proofs.YtlkhjkbepijegaaGreatDoor.qu