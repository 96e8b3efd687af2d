import Derived.Test.YtlkhjkbepijegaaGreatDoorQuFn
import Derived.Test.YtlkhjkbepijegaaGreatDoorBs
import Derived.Test.YtlkhjkbepijegaaGreatDoorAbV
import Derived.Test.YtlkhjkbepijegaaGreatDoorAbQ
import Derived.Test.YtlkhjkbepijegaaGreatDoorLay
namespace Go.Proofs.YtlkhjkbepijegaaGreatDoor.qu
open Go Go.Ab Go.Ab.F
set_option linter.all false
theorem okT0:CallOk Tryz.prog (lookT T0):=lookT_nil
theorem EO (a:AV)(h:Heap):Ai a h=bodyK Tryz.prog (lookT T0) ann 59 [a] h:=by kernel_rfl
theorem okT1:CallOk Tryz.prog (lookT T1):=lookT_cons good mixed okT0 (of_p1 EO)
theorem Ef (a:AV)(h:Heap):BL a h=bodyK Tryz.prog (lookT T1) ann 181 [a] h:=by kernel_rfl
theorem okT2:CallOk Tryz.prog (lookT T2):=lookT_cons good mixed okT1 (of_p1 Ef)
theorem Eu (a b:AV)(h:Heap):Ay a b h=bodyK Tryz.prog (lookT T2) ann 31 [a,b] h:=by kernel_rfl
theorem okT3:CallOk Tryz.prog (lookT T3):=lookT_cons good mixed okT2 (of_p2 Eu)
theorem Er (a b:AV)(h:Heap):Ah a b h=bodyK Tryz.prog (lookT T3) ann 90 [a,b] h:=by kernel_rfl
theorem okT4:CallOk Tryz.prog (lookT T4):=lookT_cons good mixed okT3 (of_p2 Er)
theorem Gj (a:AV)(h:Heap):D7 a h=bodyK Tryz.prog (lookT T4) ann 69 [a] h:=by kernel_rfl
theorem okT5:CallOk Tryz.prog (lookT T5):=lookT_cons good mixed okT4 (of_p1 Gj)
theorem Gw (h:Heap):EM h=bodyK Tryz.prog (lookT T5) ann 70 [] h:=by kernel_rfl
theorem okT6:CallOk Tryz.prog (lookT T6):=lookT_cons good mixed okT5 (of_p0 Gw)
theorem E9 (a:AV)(h:Heap):B8 a h=bodyK Tryz.prog (lookT T6) ann 110 [a] h:=by kernel_rfl
theorem okT7:CallOk Tryz.prog (lookT T7):=lookT_cons good mixed okT6 (of_p1 E9)
theorem Gm (a:AV)(h:Heap):D5 a h=bodyK Tryz.prog (lookT T7) ann 71 [a] h:=by kernel_rfl
theorem okT8:CallOk Tryz.prog (lookT T8):=lookT_cons good mixed okT7 (of_p1 Gm)
theorem Gv (h:Heap):Fo h=bodyK Tryz.prog (lookT T8) ann 111 [] h:=by kernel_rfl
theorem okT9:CallOk Tryz.prog (lookT T9):=lookT_cons good mixed okT8 (of_p0 Gv)
theorem Gx (a b:AV)(h:Heap):EP a b h=bodyK Tryz.prog (lookT T9) ann 72 [a,b] h:=by kernel_rfl
theorem okT10:CallOk Tryz.prog (lookT T10):=lookT_cons good mixed okT9 (of_p2 Gx)
theorem Ge (a:AV)(h:Heap):DT a h=bodyK Tryz.prog (lookT T10) ann 24 [a] h:=by kernel_rfl
theorem okT11:CallOk Tryz.prog (lookT T11):=lookT_cons good mixed okT10 (of_p1 Ge)
theorem Eq (a:AV)(h:Heap):AG a h=bodyK Tryz.prog (lookT T11) ann 15 [a] h:=by kernel_rfl
theorem okT12:CallOk Tryz.prog (lookT T12):=lookT_cons good mixed okT11 (of_p1 Eq)
theorem FB (a:AV)(h:Heap):AR a h=bodyK Tryz.prog (lookT T12) ann 25 [a] h:=by kernel_rfl
theorem okT13:CallOk Tryz.prog (lookT T13):=lookT_cons good mixed okT12 (of_p1 FB)
theorem Eg (a:AV)(h:Heap):BM a h=bodyK Tryz.prog (lookT T13) ann 18 [a] h:=by kernel_rfl
theorem okT14:CallOk Tryz.prog (lookT T14):=lookT_cons good mixed okT13 (of_p1 Eg)
theorem GW (a:AV)(h:Heap):AP a h=bodyK Tryz.prog (lookT T14) ann 63 [a] h:=by kernel_rfl
theorem okT15:CallOk Tryz.prog (lookT T15):=lookT_cons good mixed okT14 (of_p1 GW)
theorem Ga (a:AV)(h:Heap):Dg a h=bodyK Tryz.prog (lookT T15) ann 112 [a] h:=by kernel_rfl
theorem okT16:CallOk Tryz.prog (lookT T16):=lookT_cons good mixed okT15 (of_p1 Ga)
theorem Ft (a b:AV)(h:Heap):BT a b h=bodyK Tryz.prog (lookT T16) ann 109 [a,b] h:=by kernel_rfl
theorem okT17:CallOk Tryz.prog (lookT T17):=lookT_cons good mixed okT16 (of_p2 Ft)
theorem FC (a b:AV)(h:Heap):AB a b h=bodyK Tryz.prog (lookT T17) ann 64 [a,b] h:=by kernel_rfl
theorem okT18:CallOk Tryz.prog (lookT T18):=lookT_cons good mixed okT17 (of_p2 FC)
theorem Ek (a:AV)(h:Heap):B5 a h=bodyK Tryz.prog (lookT T18) ann 127 [a] h:=by kernel_rfl
theorem okT19:CallOk Tryz.prog (lookT T19):=lookT_cons good mixed okT18 (of_p1 Ek)
theorem Gi (a:AV)(h:Heap):DU a h=bodyK Tryz.prog (lookT T19) ann 102 [a] h:=by kernel_rfl
theorem okT20:CallOk Tryz.prog (lookT T20):=lookT_cons good mixed okT19 (of_p1 Gi)
theorem Ei (a b:AV)(h:Heap):A0 a b h=bodyK Tryz.prog (lookT T20) ann 126 [a,b] h:=by kernel_rfl
theorem okT21:CallOk Tryz.prog (lookT T21):=lookT_cons good mixed okT20 (of_p2 Ei)
theorem El (a b:AV)(h:Heap):A5 a b h=bodyK Tryz.prog (lookT T21) ann 101 [a,b] h:=by kernel_rfl
theorem okT22:CallOk Tryz.prog (lookT T22):=lookT_cons good mixed okT21 (of_p2 El)
theorem Ew (a b:AV)(h:Heap):A4 a b h=bodyK Tryz.prog (lookT T22) ann 22 [a,b] h:=by kernel_rfl
theorem okT23:CallOk Tryz.prog (lookT T23):=lookT_cons good mixed okT22 (of_p2 Ew)
theorem GP (a:AV)(h:Heap):Ca a h=bodyK Tryz.prog (lookT T23) ann 131 [a] h:=by kernel_rfl
theorem okT24:CallOk Tryz.prog (lookT T24):=lookT_cons good mixed okT23 (of_p1 GP)
theorem GM (a b:AV)(h:Heap):Bx a b h=bodyK Tryz.prog (lookT T24) ann 122 [a,b] h:=by kernel_rfl
theorem okT25:CallOk Tryz.prog (lookT T25):=lookT_cons good mixed okT24 (of_p2 GM)
theorem Gk (a:AV)(h:Heap):CK a h=bodyK Tryz.prog (lookT T25) ann 123 [a] h:=by kernel_rfl
theorem okT26:CallOk Tryz.prog (lookT T26):=lookT_cons good mixed okT25 (of_p1 Gk)
theorem Gq (a b c d:AV)(h:Heap):Cg a b c d h=bodyK Tryz.prog (lookT T26) ann 85 [a,b,c,d] h:=by kernel_rfl
theorem okT27:CallOk Tryz.prog (lookT T27):=lookT_cons good mixed okT26 (of_p4 Gq)
theorem Gl (a:AV)(h:Heap):Ea a h=bodyK Tryz.prog (lookT T27) ann 113 [a] h:=by kernel_rfl
theorem okT28:CallOk Tryz.prog (lookT T28):=lookT_cons good mixed okT27 (of_p1 Gl)
theorem EA (a:AV)(h:Heap):AU a h=bodyK Tryz.prog (lookT T28) ann 144 [a] h:=by kernel_rfl
theorem okT29:CallOk Tryz.prog (lookT T29):=lookT_cons good mixed okT28 (of_p1 EA)
theorem GU (a:AV)(h:Heap):DX a h=bodyK Tryz.prog (lookT T29) ann 132 [a] h:=by kernel_rfl
theorem okT30:CallOk Tryz.prog (lookT T30):=lookT_cons good mixed okT29 (of_p1 GU)
theorem Gd (a b c:AV)(h:Heap):D9 a b c h=bodyK Tryz.prog (lookT T30) ann 133 [a,b,c] h:=by kernel_rfl
theorem okT31:CallOk Tryz.prog (lookT T31):=lookT_cons good mixed okT30 (of_p3 Gd)
theorem FT (a b:AV)(h:Heap):Ar a b h=bodyK Tryz.prog (lookT T31) ann 114 [a,b] h:=by kernel_rfl
theorem okT32:CallOk Tryz.prog (lookT T32):=lookT_cons good mixed okT31 (of_p2 FT)
theorem F0 (a b c:AV)(h:Heap):BB a b c h=bodyK Tryz.prog (lookT T32) ann 134 [a,b,c] h:=by kernel_rfl
theorem okT33:CallOk Tryz.prog (lookT T33):=lookT_cons good mixed okT32 (of_p3 F0)
theorem E5 (a b c:AV)(h:Heap):BQ a b c h=bodyK Tryz.prog (lookT T33) ann 115 [a,b,c] h:=by kernel_rfl
theorem okT34:CallOk Tryz.prog (lookT T34):=lookT_cons good mixed okT33 (of_p3 E5)
theorem FF (a b:AV)(h:Heap):CE a b h=bodyK Tryz.prog (lookT T34) ann 73 [a,b] h:=by kernel_rfl
theorem okT35:CallOk Tryz.prog (lookT T35):=lookT_cons good mixed okT34 (of_p2 FF)
theorem EV (a:AV)(h:Heap):AM a h=bodyK Tryz.prog (lookT T35) ann 74 [a] h:=by kernel_rfl
theorem okT36:CallOk Tryz.prog (lookT T36):=lookT_cons good mixed okT35 (of_p1 EV)
theorem Gg (a:AV)(h:Heap):Cc a h=bodyK Tryz.prog (lookT T36) ann 65 [a] h:=by kernel_rfl
theorem okT37:CallOk Tryz.prog (lookT T37):=lookT_cons good mixed okT36 (of_p1 Gg)
theorem GZ (a b:AV)(h:Heap):CZ a b h=bodyK Tryz.prog (lookT T37) ann 103 [a,b] h:=by kernel_rfl
theorem okT38:CallOk Tryz.prog (lookT T38):=lookT_cons good mixed okT37 (of_p2 GZ)
theorem FD (a b:AV)(h:Heap):AY a b h=bodyK Tryz.prog (lookT T38) ann 58 [a,b] h:=by kernel_rfl
theorem okT39:CallOk Tryz.prog (lookT T39):=lookT_cons good mixed okT38 (of_p2 FD)
theorem FL (a b:AV)(h:Heap):Ap a b h=bodyK Tryz.prog (lookT T39) ann 75 [a,b] h:=by kernel_rfl
theorem okT40:CallOk Tryz.prog (lookT T40):=lookT_cons good mixed okT39 (of_p2 FL)
theorem FH (a b:AV)(h:Heap):BJ a b h=bodyK Tryz.prog (lookT T40) ann 26 [a,b] h:=by kernel_rfl
theorem okT41:CallOk Tryz.prog (lookT T41):=lookT_cons good mixed okT40 (of_p2 FH)
theorem Ey (a:AV)(h:Heap):B7 a h=bodyK Tryz.prog (lookT T41) ann 51 [a] h:=by kernel_rfl
theorem okT42:CallOk Tryz.prog (lookT T42):=lookT_cons good mixed okT41 (of_p1 Ey)
theorem GD (a b:AV)(h:Heap):Cj a b h=bodyK Tryz.prog (lookT T42) ann 116 [a,b] h:=by kernel_rfl
theorem okT43:CallOk Tryz.prog (lookT T43):=lookT_cons good mixed okT42 (of_p2 GD)
theorem Eo (a b:AV)(h:Heap):AW a b h=bodyK Tryz.prog (lookT T43) ann 76 [a,b] h:=by kernel_rfl
theorem okT44:CallOk Tryz.prog (lookT T44):=lookT_cons good mixed okT43 (of_p2 Eo)
theorem E6 (a b:AV)(h:Heap):Az a b h=bodyK Tryz.prog (lookT T44) ann 52 [a,b] h:=by kernel_rfl
theorem okT45:CallOk Tryz.prog (lookT T45):=lookT_cons good mixed okT44 (of_p2 E6)
theorem Ej (a b:AV)(h:Heap):Af a b h=bodyK Tryz.prog (lookT T45) ann 11 [a,b] h:=by kernel_rfl
theorem okT46:CallOk Tryz.prog (lookT T46):=lookT_cons good mixed okT45 (of_p2 Ej)
theorem E7 (a:AV)(h:Heap):AD a h=bodyK Tryz.prog (lookT T46) ann 12 [a] h:=by kernel_rfl
theorem okT47:CallOk Tryz.prog (lookT T47):=lookT_cons good mixed okT46 (of_p1 E7)
theorem EI (a:AV)(h:Heap):Av a h=bodyK Tryz.prog (lookT T47) ann 98 [a] h:=by kernel_rfl
theorem okT48:CallOk Tryz.prog (lookT T48):=lookT_cons good mixed okT47 (of_p1 EI)
theorem Dn (a b:AV)(h:Heap):Ak a b h=bodyK Tryz.prog (lookT T48) ann 125 [a,b] h:=by kernel_rfl
theorem okT49:CallOk Tryz.prog (lookT T49):=lookT_cons good mixed okT48 (of_p2 Dn)
theorem Dj (a b:AV)(h:Heap):Ag a b h=bodyK Tryz.prog (lookT T49) ann 97 [a,b] h:=by kernel_rfl
theorem okT50:CallOk Tryz.prog (lookT T50):=lookT_cons good mixed okT49 (of_p2 Dj)
theorem EW (a:AV)(h:Heap):Bt a h=bodyK Tryz.prog (lookT T50) ann 99 [a] h:=by kernel_rfl
theorem okT51:CallOk Tryz.prog (lookT T51):=lookT_cons good mixed okT50 (of_p1 EW)
theorem Ff (a b:AV)(h:Heap):Bq a b h=bodyK Tryz.prog (lookT T51) ann 53 [a,b] h:=by kernel_rfl
theorem okT52:CallOk Tryz.prog (lookT T52):=lookT_cons good mixed okT51 (of_p2 Ff)
theorem EF (a b:AV)(h:Heap):CA a b h=bodyK Tryz.prog (lookT T52) ann 117 [a,b] h:=by kernel_rfl
theorem okT53:CallOk Tryz.prog (lookT T53):=lookT_cons good mixed okT52 (of_p2 EF)
theorem D3 (a b:AV)(h:Heap):Aw a b h=bodyK Tryz.prog (lookT T53) ann 77 [a,b] h:=by kernel_rfl
theorem okT54:CallOk Tryz.prog (lookT T54):=lookT_cons good mixed okT53 (of_p2 D3)
theorem FO (a b c:AV)(h:Heap):Ad a b c h=bodyK Tryz.prog (lookT T54) ann 30 [a,b,c] h:=by kernel_rfl
theorem okT55:CallOk Tryz.prog (lookT T55):=lookT_cons good mixed okT54 (of_p3 FO)
theorem F5 (a:AV)(h:Heap):CT a h=bodyK Tryz.prog (lookT T55) ann 100 [a] h:=by kernel_rfl
theorem okT56:CallOk Tryz.prog (lookT T56):=lookT_cons good mixed okT55 (of_p1 F5)
theorem FP (a b c:AV)(h:Heap):Ae a b c h=bodyK Tryz.prog (lookT T56) ann 107 [a,b,c] h:=by kernel_rfl
theorem okT57:CallOk Tryz.prog (lookT T57):=lookT_cons good mixed okT56 (of_p3 FP)
theorem Fk (a b c:AV)(h:Heap):Aa a b c h=bodyK Tryz.prog (lookT T57) ann 61 [a,b,c] h:=by kernel_rfl
theorem okT58:CallOk Tryz.prog (lookT T58):=lookT_cons good mixed okT57 (of_p3 Fk)
theorem Gb (a b c:AV)(h:Heap):Bi a b c h=bodyK Tryz.prog (lookT T58) ann 108 [a,b,c] h:=by kernel_rfl
theorem okT59:CallOk Tryz.prog (lookT T59):=lookT_cons good mixed okT58 (of_p3 Gb)
theorem Gt (a:AV)(h:Heap):CY a h=bodyK Tryz.prog (lookT T59) ann 84 [a] h:=by kernel_rfl
theorem okT60:CallOk Tryz.prog (lookT T60):=lookT_cons good mixed okT59 (of_p1 Gt)
theorem GN (a:AV)(h:Heap):C0 a h=bodyK Tryz.prog (lookT T60) ann 62 [a] h:=by kernel_rfl
theorem okT61:CallOk Tryz.prog (lookT T61):=lookT_cons good mixed okT60 (of_p1 GN)
theorem FS (a b:AV)(h:Heap):As a b h=bodyK Tryz.prog (lookT T61) ann 66 [a,b] h:=by kernel_rfl
theorem okT62:CallOk Tryz.prog (lookT T62):=lookT_cons good mixed okT61 (of_p2 FS)
theorem FI (a b c:AV)(h:Heap):AF a b c h=bodyK Tryz.prog (lookT T62) ann 67 [a,b,c] h:=by kernel_rfl
theorem okT63:CallOk Tryz.prog (lookT T63):=lookT_cons good mixed okT62 (of_p3 FI)
theorem Ec (a b:AV)(h:Heap):Ao a b h=bodyK Tryz.prog (lookT T63) ann 19 [a,b] h:=by kernel_rfl
theorem okT64:CallOk Tryz.prog (lookT T64):=lookT_cons good mixed okT63 (of_p2 Ec)
theorem Fj (a:AV)(h:Heap):BI a h=bodyK Tryz.prog (lookT T64) ann 54 [a] h:=by kernel_rfl
theorem okT65:CallOk Tryz.prog (lookT T65):=lookT_cons good mixed okT64 (of_p1 Fj)
theorem Es (a:AV)(h:Heap):B6 a h=bodyK Tryz.prog (lookT T65) ann 55 [a] h:=by kernel_rfl
theorem okT66:CallOk Tryz.prog (lookT T66):=lookT_cons good mixed okT65 (of_p1 Es)
theorem EH (a:AV)(h:Heap):BO a h=bodyK Tryz.prog (lookT T66) ann 56 [a] h:=by kernel_rfl
theorem okT67:CallOk Tryz.prog (lookT T67):=lookT_cons good mixed okT66 (of_p1 EH)
theorem FJ (a:AV)(h:Heap):Bo a h=bodyK Tryz.prog (lookT T67) ann 57 [a] h:=by kernel_rfl
theorem okT68:CallOk Tryz.prog (lookT T68):=lookT_cons good mixed okT67 (of_p1 FJ)
theorem FK (a b:AV)(h:Heap):AC a b h=bodyK Tryz.prog (lookT T68) ann 13 [a,b] h:=by kernel_rfl
theorem okT69:CallOk Tryz.prog (lookT T69):=lookT_cons good mixed okT68 (of_p2 FK)
theorem EL (a b c d:AV)(h:Heap):AO a b c d h=bodyK Tryz.prog (lookT T69) ann 27 [a,b,c,d] h:=by kernel_rfl
theorem okT70:CallOk Tryz.prog (lookT T70):=lookT_cons good mixed okT69 (of_p4 EL)
theorem FZ (a b:AV)(h:Heap):BG a b h=bodyK Tryz.prog (lookT T70) ann 28 [a,b] h:=by kernel_rfl
theorem okT71:CallOk Tryz.prog (lookT T71):=lookT_cons good mixed okT70 (of_p2 FZ)
theorem FG (a b:AV)(h:Heap):Bl a b h=bodyK Tryz.prog (lookT T71) ann 29 [a,b] h:=by kernel_rfl
theorem okT72:CallOk Tryz.prog (lookT T72):=lookT_cons good mixed okT71 (of_p2 FG)
theorem E4 (a b:AV)(h:Heap):BV a b h=bodyK Tryz.prog (lookT T72) ann 20 [a,b] h:=by kernel_rfl
theorem okT73:CallOk Tryz.prog (lookT T73):=lookT_cons good mixed okT72 (of_p2 E4)
theorem FV (a:AV)(h:Heap):DE a h=bodyK Tryz.prog (lookT T73) ann 14 [a] h:=by kernel_rfl
theorem okT74:CallOk Tryz.prog (lookT T74):=lookT_cons good mixed okT73 (of_p1 FV)
theorem Em (a:AV)(h:Heap):DD a h=bodyK Tryz.prog (lookT T74) ann 32 [a] h:=by kernel_rfl
theorem okT75:CallOk Tryz.prog (lookT T75):=lookT_cons good mixed okT74 (of_p1 Em)
theorem GF (a b:AV)(h:Heap):Ax a b h=bodyK Tryz.prog (lookT T75) ann 16 [a,b] h:=by kernel_rfl
theorem okT76:CallOk Tryz.prog (lookT T76):=lookT_cons good mixed okT75 (of_p2 GF)
theorem GQ (h:Heap):EZ h=bodyK Tryz.prog (lookT T76) ann 8 [] h:=by kernel_rfl
theorem GK:isTrue (EZ hQ1)=true:=by kernel_rfl
theorem okT77R:CallOk Tryz.prog (lookT ((8,p0 EZ)::T76)):=lookT_cons good mixed okT76 (of_p0 GQ)
theorem okT77:CallOk Tryz.prog (lookT T77):=by
 obtain⟨g,hg⟩:=isTrue_some GK
 exact lookT_quiet0 okT76 okT77R (base1 oneGlobal) hg rfl
theorem GG (a:AV)(h:Heap):Ct a h=bodyK Tryz.prog (lookT T77) ann 78 [a] h:=by kernel_rfl
theorem okT78:CallOk Tryz.prog (lookT T78):=lookT_cons good mixed okT77 (of_p1 GG)
theorem GI (a:AV)(h:Heap):Co a h=bodyK Tryz.prog (lookT T78) ann 79 [a] h:=by kernel_rfl
theorem okT79:CallOk Tryz.prog (lookT T79):=lookT_cons good mixed okT78 (of_p1 GI)
theorem GH (a:AV)(h:Heap):Cy a h=bodyK Tryz.prog (lookT T79) ann 33 [a] h:=by kernel_rfl
theorem okT80:CallOk Tryz.prog (lookT T80):=lookT_cons good mixed okT79 (of_p1 GH)
theorem GL (h:Heap):DJ h=bodyK Tryz.prog (lookT T80) ann 34 [] h:=by kernel_rfl
theorem okT81:CallOk Tryz.prog (lookT T81):=lookT_cons good mixed okT80 (of_p0 GL)
theorem Gp (a:AV)(h:Heap):Cs a h=bodyK Tryz.prog (lookT T81) ann 80 [a] h:=by kernel_rfl
theorem okT82:CallOk Tryz.prog (lookT T82):=lookT_cons good mixed okT81 (of_p1 Gp)
theorem Ez (a b:AV)(h:Heap):B9 a b h=bodyK Tryz.prog (lookT T82) ann 35 [a,b] h:=by kernel_rfl
theorem okT83:CallOk Tryz.prog (lookT T83):=lookT_cons good mixed okT82 (of_p2 Ez)
theorem EU (a b:AV)(h:Heap):Bu a b h=bodyK Tryz.prog (lookT T83) ann 36 [a,b] h:=by kernel_rfl
theorem okT84:CallOk Tryz.prog (lookT T84):=lookT_cons good mixed okT83 (of_p2 EU)
theorem GV (a:AV)(h:Heap):Dc a h=bodyK Tryz.prog (lookT T84) ann 9 [a] h:=by kernel_rfl
theorem okT85:CallOk Tryz.prog (lookT T85):=lookT_cons good mixed okT84 (of_p1 GV)
theorem Gn (a:AV)(h:Heap):DC a h=bodyK Tryz.prog (lookT T85) ann 37 [a] h:=by kernel_rfl
theorem okT86:CallOk Tryz.prog (lookT T86):=lookT_cons good mixed okT85 (of_p1 Gn)
theorem GT (a:AV)(h:Heap):Bg a h=bodyK Tryz.prog (lookT T86) ann 135 [a] h:=by kernel_rfl
theorem okT87:CallOk Tryz.prog (lookT T87):=lookT_cons good mixed okT86 (of_p1 GT)
theorem GY (a:AV)(h:Heap):Dl a h=bodyK Tryz.prog (lookT T87) ann 118 [a] h:=by kernel_rfl
theorem okT88:CallOk Tryz.prog (lookT T88):=lookT_cons good mixed okT87 (of_p1 GY)
theorem Gf (a:AV)(h:Heap):DA a h=bodyK Tryz.prog (lookT T88) ann 145 [a] h:=by kernel_rfl
theorem okT89:CallOk Tryz.prog (lookT T89):=lookT_cons good mixed okT88 (of_p1 Gf)
theorem Fg (a b:AV)(h:Heap):BF a b h=bodyK Tryz.prog (lookT T89) ann 136 [a,b] h:=by kernel_rfl
theorem okT90:CallOk Tryz.prog (lookT T90):=lookT_cons good mixed okT89 (of_p2 Fg)
theorem FN (a b:AV)(h:Heap):Aq a b h=bodyK Tryz.prog (lookT T90) ann 119 [a,b] h:=by kernel_rfl
theorem okT91:CallOk Tryz.prog (lookT T91):=lookT_cons good mixed okT90 (of_p2 FN)
theorem GO (a:AV)(h:Heap):CC a h=bodyK Tryz.prog (lookT T91) ann 137 [a] h:=by kernel_rfl
theorem okT92:CallOk Tryz.prog (lookT T92):=lookT_cons good mixed okT91 (of_p1 GO)
theorem Gc (a b c:AV)(h:Heap):D8 a b c h=bodyK Tryz.prog (lookT T92) ann 138 [a,b,c] h:=by kernel_rfl
theorem okT93:CallOk Tryz.prog (lookT T93):=lookT_cons good mixed okT92 (of_p3 Gc)
theorem Fy (a b:AV)(h:Heap):BC a b h=bodyK Tryz.prog (lookT T93) ann 87 [a,b] h:=by kernel_rfl
theorem okT94:CallOk Tryz.prog (lookT T94):=lookT_cons good mixed okT93 (of_p2 Fy)
theorem Fw (a b:AV)(h:Heap):BU a b h=bodyK Tryz.prog (lookT T94) ann 120 [a,b] h:=by kernel_rfl
theorem okT95:CallOk Tryz.prog (lookT T95):=lookT_cons good mixed okT94 (of_p2 Fw)
theorem Fz (a b c:AV)(h:Heap):B2 a b c h=bodyK Tryz.prog (lookT T95) ann 121 [a,b,c] h:=by kernel_rfl
theorem okT96:CallOk Tryz.prog (lookT T96):=lookT_cons good mixed okT95 (of_p3 Fz)
theorem GA (a b:AV)(h:Heap):CW a b h=bodyK Tryz.prog (lookT T96) ann 81 [a,b] h:=by kernel_rfl
theorem okT97:CallOk Tryz.prog (lookT T97):=lookT_cons good mixed okT96 (of_p2 GA)
theorem EX (a:AV)(h:Heap):AL a h=bodyK Tryz.prog (lookT T97) ann 82 [a] h:=by kernel_rfl
theorem okT98:CallOk Tryz.prog (lookT T98):=lookT_cons good mixed okT97 (of_p1 EX)
theorem Fs (a b:AV)(h:Heap):B0 a b h=bodyK Tryz.prog (lookT T98) ann 83 [a,b] h:=by kernel_rfl
theorem okT99:CallOk Tryz.prog (lookT T99):=lookT_cons good mixed okT98 (of_p2 Fs)
theorem F7 (a b:AV)(h:Heap):CU a b h=bodyK Tryz.prog (lookT T99) ann 38 [a,b] h:=by kernel_rfl
theorem okT100:CallOk Tryz.prog (lookT T100):=lookT_cons good mixed okT99 (of_p2 F7)
theorem Gh (a:AV)(h:Heap):D4 a h=bodyK Tryz.prog (lookT T100) ann 39 [a] h:=by kernel_rfl
theorem okT101:CallOk Tryz.prog (lookT T101):=lookT_cons good mixed okT100 (of_p1 Gh)
theorem Eh (a b c d:AV)(h:Heap):Aj a b c d h=bodyK Tryz.prog (lookT T101) ann 86 [a,b,c,d] h:=by kernel_rfl
theorem okT102:CallOk Tryz.prog (lookT T102):=lookT_cons good mixed okT101 (of_p4 Eh)
theorem F3 (a b c d:AV)(h:Heap):Bz a b c d h=bodyK Tryz.prog (lookT T102) ann 40 [a,b,c,d] h:=by kernel_rfl
theorem okT103:CallOk Tryz.prog (lookT T103):=lookT_cons good mixed okT102 (of_p4 F3)
theorem Fp (a:AV)(h:Heap):A8 a h=bodyK Tryz.prog (lookT T103) ann 42 [a] h:=by kernel_rfl
theorem okT104:CallOk Tryz.prog (lookT T104):=lookT_cons good mixed okT103 (of_p1 Fp)
theorem Fc (a:AV)(h:Heap):Bn a h=bodyK Tryz.prog (lookT T104) ann 88 [a] h:=by kernel_rfl
theorem okT105:CallOk Tryz.prog (lookT T105):=lookT_cons good mixed okT104 (of_p1 Fc)
theorem E0 (a b:AV)(h:Heap):AH a b h=bodyK Tryz.prog (lookT T105) ann 89 [a,b] h:=by kernel_rfl
theorem okT106:CallOk Tryz.prog (lookT T106):=lookT_cons good mixed okT105 (of_p2 E0)
theorem Fh (a b:AV)(h:Heap):Bk a b h=bodyK Tryz.prog (lookT T106) ann 41 [a,b] h:=by kernel_rfl
theorem okT107:CallOk Tryz.prog (lookT T107):=lookT_cons good mixed okT106 (of_p2 Fh)
theorem ET (a b:AV)(h:Heap):AK a b h=bodyK Tryz.prog (lookT T107) ann 96 [a,b] h:=by kernel_rfl
theorem okT108:CallOk Tryz.prog (lookT T108):=lookT_cons good mixed okT107 (of_p2 ET)
theorem FE (a b:AV)(h:Heap):Bp a b h=bodyK Tryz.prog (lookT T108) ann 91 [a,b] h:=by kernel_rfl
theorem okT109:CallOk Tryz.prog (lookT T109):=lookT_cons good mixed okT108 (of_p2 FE)
theorem Fv (a b c:AV)(h:Heap):B1 a b c h=bodyK Tryz.prog (lookT T109) ann 44 [a,b,c] h:=by kernel_rfl
theorem okT110:CallOk Tryz.prog (lookT T110):=lookT_cons good mixed okT109 (of_p3 Fv)
theorem Gr (a b c:AV)(h:Heap):DB a b c h=bodyK Tryz.prog (lookT T110) ann 146 [a,b,c] h:=by kernel_rfl
theorem okT111:CallOk Tryz.prog (lookT T111):=lookT_cons good mixed okT110 (of_p3 Gr)
theorem GJ (a:AV)(h:Heap):BZ a h=bodyK Tryz.prog (lookT T111) ann 139 [a] h:=by kernel_rfl
theorem okT112:CallOk Tryz.prog (lookT T112):=lookT_cons good mixed okT111 (of_p1 GJ)
theorem Gu (a b:AV)(h:Heap):C1 a b h=bodyK Tryz.prog (lookT T112) ann 68 [a,b] h:=by kernel_rfl
theorem okT113:CallOk Tryz.prog (lookT T113):=lookT_cons good mixed okT112 (of_p2 Gu)
theorem GX (a b c:AV)(h:Heap):Bc a b c h=bodyK Tryz.prog (lookT T113) ann 140 [a,b,c] h:=by kernel_rfl
theorem okT114:CallOk Tryz.prog (lookT T114):=lookT_cons good mixed okT113 (of_p3 GX)
theorem Ed (a b:AV)(h:Heap):Bv a b h=bodyK Tryz.prog (lookT T114) ann 124 [a,b] h:=by kernel_rfl
theorem okT115:CallOk Tryz.prog (lookT T115):=lookT_cons good mixed okT114 (of_p2 Ed)
theorem Fa (a:AV)(h:Heap):BH a h=bodyK Tryz.prog (lookT T115) ann 92 [a] h:=by kernel_rfl
theorem okT116:CallOk Tryz.prog (lookT T116):=lookT_cons good mixed okT115 (of_p1 Fa)
theorem EE (a:AV)(h:Heap):BN a h=bodyK Tryz.prog (lookT T116) ann 93 [a] h:=by kernel_rfl
theorem okT117:CallOk Tryz.prog (lookT T117):=lookT_cons good mixed okT116 (of_p1 EE)
theorem EN (a:AV)(h:Heap):Bj a h=bodyK Tryz.prog (lookT T117) ann 94 [a] h:=by kernel_rfl
theorem okT118:CallOk Tryz.prog (lookT T118):=lookT_cons good mixed okT117 (of_p1 EN)
theorem Fq (a:AV)(h:Heap):CX a h=bodyK Tryz.prog (lookT T118) ann 95 [a] h:=by kernel_rfl
theorem okT119:CallOk Tryz.prog (lookT T119):=lookT_cons good mixed okT118 (of_p1 Fq)
theorem Fx (a b:AV)(h:Heap):BA a b h=bodyK Tryz.prog (lookT T119) ann 43 [a,b] h:=by kernel_rfl
theorem okT120:CallOk Tryz.prog (lookT T120):=lookT_cons good mixed okT119 (of_p2 Fx)
theorem Fm (a b c:AV)(h:Heap):AZ a b c h=bodyK Tryz.prog (lookT T120) ann 46 [a,b,c] h:=by kernel_rfl
theorem okT121:CallOk Tryz.prog (lookT T121):=lookT_cons good mixed okT120 (of_p3 Fm)
theorem Ee (a b c d:AV)(h:Heap):Al a b c d h=bodyK Tryz.prog (lookT T121) ann 47 [a,b,c,d] h:=by kernel_rfl
theorem okT122:CallOk Tryz.prog (lookT T122):=lookT_cons good mixed okT121 (of_p4 Ee)
theorem E8 (a b c:AV)(h:Heap):BS a b c h=bodyK Tryz.prog (lookT T122) ann 45 [a,b,c] h:=by kernel_rfl
theorem okT123:CallOk Tryz.prog (lookT T123):=lookT_cons good mixed okT122 (of_p3 E8)
theorem Fu (a b:AV)(h:Heap):CS a b h=bodyK Tryz.prog (lookT T123) ann 48 [a,b] h:=by kernel_rfl
theorem okT124:CallOk Tryz.prog (lookT T124):=lookT_cons good mixed okT123 (of_p2 Fu)
theorem F4 (a b:AV)(h:Heap):BP a b h=bodyK Tryz.prog (lookT T124) ann 49 [a,b] h:=by kernel_rfl
theorem okT125:CallOk Tryz.prog (lookT T125):=lookT_cons good mixed okT124 (of_p2 F4)
theorem FY (a b:AV)(h:Heap):CB a b h=bodyK Tryz.prog (lookT T125) ann 50 [a,b] h:=by kernel_rfl
theorem okT126:CallOk Tryz.prog (lookT T126):=lookT_cons good mixed okT125 (of_p2 FY)
theorem GE (a b:AV)(h:Heap):AA a b h=bodyK Tryz.prog (lookT T126) ann 10 [a,b] h:=by kernel_rfl
theorem okT127:CallOk Tryz.prog (lookT T127):=lookT_cons good mixed okT126 (of_p2 GE)
theorem Do (a:AV)(h:Heap):AQ a h=bodyK Tryz.prog (lookT T127) ann 104 [a] h:=by kernel_rfl
theorem okT128:CallOk Tryz.prog (lookT T128):=lookT_cons good mixed okT127 (of_p1 Do)
theorem okT129:CallOk Tryz.prog (lookT T129):=lookT_keys okT128 keys106Lays (by rfl) (by rfl)
theorem okT130:CallOk Tryz.prog (lookT T130):=lookT_sorted okT129 sorted105Lays keys106Lays sort129Lays (by rfl) (by rfl) (by rfl)
theorem Et (a b:AV)(h:Heap):B4 a b h=bodyK Tryz.prog (lookT T130) ann 60 [a,b] h:=by kernel_rfl
theorem okT131:CallOk Tryz.prog (lookT T131):=lookT_cons good mixed okT130 (of_p2 Et)
theorem EJ (a:AV)(h:Heap):A7 a h=bodyK Tryz.prog (lookT T131) ann 17 [a] h:=by kernel_rfl
theorem okT132:CallOk Tryz.prog (lookT T132):=lookT_cons good mixed okT131 (of_p1 EJ)
theorem F2 (a b c:AV)(h:Heap):AX a b c h=bodyK Tryz.prog (lookT T132) ann 6 [a,b,c] h:=by kernel_rfl
theorem okT133:CallOk Tryz.prog (lookT T133):=lookT_cons good mixed okT132 (of_p3 F2)
noncomputable def tab:Tab:=T133
theorem okTab:CallOk Tryz.prog (lookT tab):=okT133
end Go.Proofs.YtlkhjkbepijegaaGreatDoor.qu