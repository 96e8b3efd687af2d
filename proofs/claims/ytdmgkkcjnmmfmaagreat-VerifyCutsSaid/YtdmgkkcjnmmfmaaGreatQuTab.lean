import Derived.Test.YtdmgkkcjnmmfmaaGreatQuFn
import Derived.Test.YtdmgkkcjnmmfmaaGreatBs
import Derived.Test.YtdmgkkcjnmmfmaaGreatAbV
import Derived.Test.YtdmgkkcjnmmfmaaGreatAbQ
import Derived.Test.YtdmgkkcjnmmfmaaGreatLay
namespace Go.Proofs.YtdmgkkcjnmmfmaaGreat.qu
open Go Go.Ab Go.Ab.F
set_option linter.all false
theorem okT0:CallOk Tryz.prog (lookT T0):=Oj
theorem KV (a:AV)(h:Heap):Dt a h=bodyK Tryz.prog (lookT T0) ann 65 [a] h:=by kernel_rfl
theorem okT1:CallOk Tryz.prog (lookT T1):=Af good mixed okT0 (Cs KV)
theorem Hl (a:AV)(h:Heap):DC a h=bodyK Tryz.prog (lookT T1) ann 64 [a] h:=by kernel_rfl
theorem okT2:CallOk Tryz.prog (lookT T2):=Af good mixed okT1 (Cs Hl)
theorem Kb (a:AV)(h:Heap):G2 a h=bodyK Tryz.prog (lookT T2) ann 67 [a] h:=by kernel_rfl
theorem okT3:CallOk Tryz.prog (lookT T3):=Af good mixed okT2 (Cs Kb)
theorem Hj (a:AV)(h:Heap):DI a h=bodyK Tryz.prog (lookT T3) ann 66 [a] h:=by kernel_rfl
theorem okT4:CallOk Tryz.prog (lookT T4):=Af good mixed okT3 (Cs Hj)
theorem H9 (a b:AV)(h:Heap):Cw a b h=bodyK Tryz.prog (lookT T4) ann 124 [a,b] h:=by kernel_rfl
theorem okT5:CallOk Tryz.prog (lookT T5):=Af good mixed okT4 (Cq H9)
theorem Im (a:AV)(h:Heap):E4 a h=bodyK Tryz.prog (lookT T5) ann 146 [a] h:=by kernel_rfl
theorem okT6:CallOk Tryz.prog (lookT T6):=Af good mixed okT5 (Cs Im)
theorem GZ (a b:AV)(h:Heap):Au a b h=bodyK Tryz.prog (lookT T6) ann 99 [a,b] h:=by kernel_rfl
theorem okT7:CallOk Tryz.prog (lookT T7):=Af good mixed okT6 (Cq GZ)
theorem Fk (a b:AV)(h:Heap):Bd a b h=bodyK Tryz.prog (lookT T7) ann 98 [a,b] h:=by kernel_rfl
theorem okT8:CallOk Tryz.prog (lookT T8):=Af good mixed okT7 (Cq Fk)
theorem Fb (a b:AV)(h:Heap):CA a b h=bodyK Tryz.prog (lookT T8) ann 107 [a,b] h:=by kernel_rfl
theorem okT9:CallOk Tryz.prog (lookT T9):=Af good mixed okT8 (Cq Fb)
theorem Gd (a b c:AV)(h:Heap):C1 a b c h=bodyK Tryz.prog (lookT T9) ann 133 [a,b,c] h:=by kernel_rfl
theorem okT10:CallOk Tryz.prog (lookT T10):=Af good mixed okT9 (KZ Gd)
theorem Ka (a:AV)(h:Heap):Fh a h=bodyK Tryz.prog (lookT T10) ann 60 [a] h:=by kernel_rfl
theorem okT11:CallOk Tryz.prog (lookT T11):=Af good mixed okT10 (Cs Ka)
theorem Hh (a:AV)(h:Heap):Bm a h=bodyK Tryz.prog (lookT T11) ann 27 [a] h:=by kernel_rfl
theorem okT12:CallOk Tryz.prog (lookT T12):=Af good mixed okT11 (Cs Hh)
theorem HJ (a:AV)(h:Heap):Cz a h=bodyK Tryz.prog (lookT T12) ann 29 [a] h:=by kernel_rfl
theorem okT13:CallOk Tryz.prog (lookT T13):=Af good mixed okT12 (Cs HJ)
theorem Le (a:AV)(h:Heap):FP a h=bodyK Tryz.prog (lookT T13) ann 32 [a] h:=by kernel_rfl
theorem okT14:CallOk Tryz.prog (lookT T14):=Af good mixed okT13 (Cs Le)
theorem Hn (a:AV)(h:Heap):As a h=bodyK Tryz.prog (lookT T14) ann 26 [a] h:=by kernel_rfl
theorem okT15:CallOk Tryz.prog (lookT T15):=Af good mixed okT14 (Cs Hn)
theorem HR (a:AV)(h:Heap):Df a h=bodyK Tryz.prog (lookT T15) ann 62 [a] h:=by kernel_rfl
theorem okT16:CallOk Tryz.prog (lookT T16):=Af good mixed okT15 (Cs HR)
theorem IO (a:AV)(h:Heap):Eb a h=bodyK Tryz.prog (lookT T16) ann 25 [a] h:=by kernel_rfl
theorem okT17:CallOk Tryz.prog (lookT T17):=Af good mixed okT16 (Cs IO)
theorem II (a:AV)(h:Heap):Ef a h=bodyK Tryz.prog (lookT T17) ann 31 [a] h:=by kernel_rfl
theorem okT18:CallOk Tryz.prog (lookT T18):=Af good mixed okT17 (Cs II)
theorem IW (a:AV)(h:Heap):Ee a h=bodyK Tryz.prog (lookT T18) ann 34 [a] h:=by kernel_rfl
theorem okT19:CallOk Tryz.prog (lookT T19):=Af good mixed okT18 (Cs IW)
theorem Jd (a b:AV)(h:Heap):CW a b h=bodyK Tryz.prog (lookT T19) ann 93 [a,b] h:=by kernel_rfl
theorem okT20:CallOk Tryz.prog (lookT T20):=Af good mixed okT19 (Cq Jd)
theorem JU (a:AV)(h:Heap):Cy a h=bodyK Tryz.prog (lookT T20) ann 94 [a] h:=by kernel_rfl
theorem okT21:CallOk Tryz.prog (lookT T21):=Af good mixed okT20 (Cs JU)
theorem FD (a b:AV)(h:Heap):BU a b h=bodyK Tryz.prog (lookT T21) ann 132 [a,b] h:=by kernel_rfl
theorem okT22:CallOk Tryz.prog (lookT T22):=Af good mixed okT21 (Cq FD)
theorem FA (a b:AV)(h:Heap):BF a b h=bodyK Tryz.prog (lookT T22) ann 123 [a,b] h:=by kernel_rfl
theorem okT23:CallOk Tryz.prog (lookT T23):=Af good mixed okT22 (Cq FA)
theorem okT24:CallOk Tryz.prog (lookT T24):=N3 okT23 sort125Lays (by rfl)
theorem Fi (a:AV)(h:Heap):BS a h=bodyK Tryz.prog (lookT T24) ann 126 [a] h:=by kernel_rfl
theorem okT25:CallOk Tryz.prog (lookT T25):=Af good mixed okT24 (Cs Fi)
theorem Io (a b c:AV)(h:Heap):CQ a b c h=bodyK Tryz.prog (lookT T25) ann 95 [a,b,c] h:=by kernel_rfl
theorem okT26:CallOk Tryz.prog (lookT T26):=Af good mixed okT25 (KZ Io)
theorem JQ (a b c d:AV)(h:Heap):Ei a b c d h=bodyK Tryz.prog (lookT T26) ann 92 [a,b,c,d] h:=by kernel_rfl
theorem okT27:CallOk Tryz.prog (lookT T27):=Af good mixed okT26 (SA JQ)
theorem FX (a b c:AV)(h:Heap):BA a b c h=bodyK Tryz.prog (lookT T27) ann 105 [a,b,c] h:=by kernel_rfl
theorem okT28:CallOk Tryz.prog (lookT T28):=Af good mixed okT27 (KZ FX)
theorem Eo (a b:AV)(h:Heap):BV a b h=bodyK Tryz.prog (lookT T28) ann 106 [a,b] h:=by kernel_rfl
theorem okT29:CallOk Tryz.prog (lookT T29):=Af good mixed okT28 (Cq Eo)
theorem G9 (a b c:AV)(h:Heap):Ai a b c h=bodyK Tryz.prog (lookT T29) ann 110 [a,b,c] h:=by kernel_rfl
theorem okT30:CallOk Tryz.prog (lookT T30):=Af good mixed okT29 (KZ G9)
theorem Fq (a b:AV)(h:Heap):B0 a b h=bodyK Tryz.prog (lookT T30) ann 111 [a,b] h:=by kernel_rfl
theorem okT31:CallOk Tryz.prog (lookT T31):=Af good mixed okT30 (Cq Fq)
theorem HT (a:AV)(h:Heap):BW a h=bodyK Tryz.prog (lookT T31) ann 59 [a] h:=by kernel_rfl
theorem okT32:CallOk Tryz.prog (lookT T32):=Af good mixed okT31 (Cs HT)
theorem H6 (a b:AV)(h:Heap):Cu a b h=bodyK Tryz.prog (lookT T32) ann 28 [a,b] h:=by kernel_rfl
theorem okT33:CallOk Tryz.prog (lookT T33):=Af good mixed okT32 (Cq H6)
theorem GK (a b:AV)(h:Heap):CN a b h=bodyK Tryz.prog (lookT T33) ann 61 [a,b] h:=by kernel_rfl
theorem okT34:CallOk Tryz.prog (lookT T34):=Af good mixed okT33 (Cq GK)
theorem HV (a b:AV)(h:Heap):C0 a b h=bodyK Tryz.prog (lookT T34) ann 63 [a,b] h:=by kernel_rfl
theorem okT35:CallOk Tryz.prog (lookT T35):=Af good mixed okT34 (Cq HV)
theorem Hu (a:AV)(h:Heap):DS a h=bodyK Tryz.prog (lookT T35) ann 36 [a] h:=by kernel_rfl
theorem okT36:CallOk Tryz.prog (lookT T36):=Af good mixed okT35 (Cs Hu)
theorem Kd (a:AV)(h:Heap):Eu a h=bodyK Tryz.prog (lookT T36) ann 15 [a] h:=by kernel_rfl
theorem okT37:CallOk Tryz.prog (lookT T37):=Af good mixed okT36 (Cs Kd)
theorem DN (a b:AV)(h:Heap):BT a b h=bodyK Tryz.prog (lookT T37) ann 90 [a,b] h:=by kernel_rfl
theorem okT38:CallOk Tryz.prog (lookT T38):=Af good mixed okT37 (Cq DN)
theorem C9 (a b:AV)(h:Heap):A8 a b h=bodyK Tryz.prog (lookT T38) ann 68 [a,b] h:=by kernel_rfl
theorem okT39:CallOk Tryz.prog (lookT T39):=Af good mixed okT38 (Cq C9)
theorem En (a b:AV)(h:Heap):Bt a b h=bodyK Tryz.prog (lookT T39) ann 91 [a,b] h:=by kernel_rfl
theorem okT40:CallOk Tryz.prog (lookT T40):=Af good mixed okT39 (Cq En)
theorem EB (a b:AV)(h:Heap):BZ a b h=bodyK Tryz.prog (lookT T40) ann 69 [a,b] h:=by kernel_rfl
theorem okT41:CallOk Tryz.prog (lookT T41):=Af good mixed okT40 (Cq EB)
theorem IR (a:AV)(h:Heap):Dm a h=bodyK Tryz.prog (lookT T41) ann 42 [a] h:=by kernel_rfl
theorem okT42:CallOk Tryz.prog (lookT T42):=Af good mixed okT41 (Cs IR)
theorem Ik (a:AV)(h:Heap):BL a h=bodyK Tryz.prog (lookT T42) ann 43 [a] h:=by kernel_rfl
theorem okT43:CallOk Tryz.prog (lookT T43):=Af good mixed okT42 (Cs Ik)
theorem Li (a b:AV)(h:Heap):Em a b h=bodyK Tryz.prog (lookT T43) ann 128 [a,b] h:=by kernel_rfl
theorem okT44:CallOk Tryz.prog (lookT T44):=Af good mixed okT43 (Cq Li)
theorem LT (a b:AV)(h:Heap):DZ a b h=bodyK Tryz.prog (lookT T44) ann 127 [a,b] h:=by kernel_rfl
theorem okT45:CallOk Tryz.prog (lookT T45):=Af good mixed okT44 (Cq LT)
theorem J5 (a:AV)(h:Heap):Ds a h=bodyK Tryz.prog (lookT T45) ann 129 [a] h:=by kernel_rfl
theorem okT46:CallOk Tryz.prog (lookT T46):=Af good mixed okT45 (Cs J5)
theorem Ix (a:AV)(h:Heap):ED a h=bodyK Tryz.prog (lookT T46) ann 130 [a] h:=by kernel_rfl
theorem okT47:CallOk Tryz.prog (lookT T47):=Af good mixed okT46 (Cs Ix)
theorem Jp (a b:AV)(h:Heap):Aj a b h=bodyK Tryz.prog (lookT T47) ann 96 [a,b] h:=by kernel_rfl
theorem okT48:CallOk Tryz.prog (lookT T48):=Af good mixed okT47 (Cq Jp)
theorem JS (a:AV)(h:Heap):BD a h=bodyK Tryz.prog (lookT T48) ann 97 [a] h:=by kernel_rfl
theorem okT49:CallOk Tryz.prog (lookT T49):=Af good mixed okT48 (Cs JS)
theorem KX (a b:AV)(h:Heap):Ff a b h=bodyK Tryz.prog (lookT T49) ann 70 [a,b] h:=by kernel_rfl
theorem okT50:CallOk Tryz.prog (lookT T50):=Af good mixed okT49 (Cq KX)
theorem Kc (a b:AV)(h:Heap):Fa a b h=bodyK Tryz.prog (lookT T50) ann 44 [a,b] h:=by kernel_rfl
theorem okT51:CallOk Tryz.prog (lookT T51):=Af good mixed okT50 (Cq Kc)
theorem GL (a b:AV)(h:Heap):Co a b h=bodyK Tryz.prog (lookT T51) ann 71 [a,b] h:=by kernel_rfl
theorem okT52:CallOk Tryz.prog (lookT T52):=Af good mixed okT51 (Cq GL)
theorem FM (a b:AV)(h:Heap):Bx a b h=bodyK Tryz.prog (lookT T52) ann 45 [a,b] h:=by kernel_rfl
theorem okT53:CallOk Tryz.prog (lookT T53):=Af good mixed okT52 (Cq FM)
theorem HD (a b:AV)(h:Heap):A3 a b h=bodyK Tryz.prog (lookT T53) ann 102 [a,b] h:=by kernel_rfl
theorem okT54:CallOk Tryz.prog (lookT T54):=Af good mixed okT53 (Cq HD)
theorem Fu (a b:AV)(h:Heap):Bs a b h=bodyK Tryz.prog (lookT T54) ann 101 [a,b] h:=by kernel_rfl
theorem okT55:CallOk Tryz.prog (lookT T55):=Af good mixed okT54 (Cq Fu)
theorem Gs (a b c:AV)(h:Heap):A9 a b c h=bodyK Tryz.prog (lookT T55) ann 100 [a,b,c] h:=by kernel_rfl
theorem okT56:CallOk Tryz.prog (lookT T56):=Af good mixed okT55 (KZ Gs)
theorem GM (a:AV)(h:Heap):A1 a h=bodyK Tryz.prog (lookT T56) ann 103 [a] h:=by kernel_rfl
theorem okT57:CallOk Tryz.prog (lookT T57):=Af good mixed okT56 (Cs GM)
theorem Dc (a b:AV)(h:Heap):Bb a b h=bodyK Tryz.prog (lookT T57) ann 131 [a,b] h:=by kernel_rfl
theorem okT58:CallOk Tryz.prog (lookT T58):=Af good mixed okT57 (Cq Dc)
theorem DL (a b:AV)(h:Heap):Ay a b h=bodyK Tryz.prog (lookT T58) ann 104 [a,b] h:=by kernel_rfl
theorem okT59:CallOk Tryz.prog (lookT T59):=Af good mixed okT58 (Cq DL)
theorem Fz (a:AV)(h:Heap):CM a h=bodyK Tryz.prog (lookT T59) ann 72 [a] h:=by kernel_rfl
theorem okT60:CallOk Tryz.prog (lookT T60):=Af good mixed okT59 (Cs Fz)
theorem GD (a b c:AV)(h:Heap):BM a b c h=bodyK Tryz.prog (lookT T60) ann 108 [a,b,c] h:=by kernel_rfl
theorem okT61:CallOk Tryz.prog (lookT T61):=Af good mixed okT60 (KZ GD)
theorem GA (a:AV)(h:Heap):Bv a h=bodyK Tryz.prog (lookT T61) ann 109 [a] h:=by kernel_rfl
theorem okT62:CallOk Tryz.prog (lookT T62):=Af good mixed okT61 (Cs GA)
theorem GE (a:AV)(h:Heap):Bw a h=bodyK Tryz.prog (lookT T62) ann 73 [a] h:=by kernel_rfl
theorem okT63:CallOk Tryz.prog (lookT T63):=Af good mixed okT62 (Cs GE)
theorem GW (a b c d e:AV)(h:Heap):Bq a b c d e h=bodyK Tryz.prog (lookT T63) ann 134 [a,b,c,d,e] h:=by kernel_rfl
theorem okT64:CallOk Tryz.prog (lookT T64):=Af good mixed okT63 (SU GW)
theorem GI (a:AV)(h:Heap):Bu a h=bodyK Tryz.prog (lookT T64) ann 112 [a] h:=by kernel_rfl
theorem okT65:CallOk Tryz.prog (lookT T65):=Af good mixed okT64 (Cs GI)
theorem GJ (a:AV)(h:Heap):CJ a h=bodyK Tryz.prog (lookT T65) ann 74 [a] h:=by kernel_rfl
theorem okT66:CallOk Tryz.prog (lookT T66):=Af good mixed okT65 (Cs GJ)
theorem Fo (a:AV)(h:Heap):BK a h=bodyK Tryz.prog (lookT T66) ann 113 [a] h:=by kernel_rfl
theorem okT67:CallOk Tryz.prog (lookT T67):=Af good mixed okT66 (Cs Fo)
theorem HA (a:AV)(h:Heap):Cn a h=bodyK Tryz.prog (lookT T67) ann 75 [a] h:=by kernel_rfl
theorem okT68:CallOk Tryz.prog (lookT T68):=Af good mixed okT67 (Cs HA)
theorem Gb (a:AV)(h:Heap):CV a h=bodyK Tryz.prog (lookT T68) ann 76 [a] h:=by kernel_rfl
theorem okT69:CallOk Tryz.prog (lookT T69):=Af good mixed okT68 (Cs Gb)
theorem DR (a:AV)(h:Heap):Ap a h=bodyK Tryz.prog (lookT T69) ann 135 [a] h:=by kernel_rfl
theorem okT70:CallOk Tryz.prog (lookT T70):=Af good mixed okT69 (Cs DR)
theorem KA (a b:AV)(h:Heap):Ch a b h=bodyK Tryz.prog (lookT T70) ann 137 [a,b] h:=by kernel_rfl
theorem okT71:CallOk Tryz.prog (lookT T71):=Af good mixed okT70 (Cq KA)
theorem HB (a b:AV)(h:Heap):Aq a b h=bodyK Tryz.prog (lookT T71) ann 136 [a,b] h:=by kernel_rfl
theorem okT72:CallOk Tryz.prog (lookT T72):=Af good mixed okT71 (Cq HB)
theorem Ji (a:AV)(h:Heap):Cg a h=bodyK Tryz.prog (lookT T72) ann 148 [a] h:=by kernel_rfl
theorem okT73:CallOk Tryz.prog (lookT T73):=Af good mixed okT72 (Cs Ji)
theorem J3 (a:AV)(h:Heap):EY a h=bodyK Tryz.prog (lookT T73) ann 147 [a] h:=by kernel_rfl
theorem okT74:CallOk Tryz.prog (lookT T74):=Af good mixed okT73 (Cs J3)
theorem HN (a b c:AV)(h:Heap):BB a b c h=bodyK Tryz.prog (lookT T74) ann 149 [a,b,c] h:=by kernel_rfl
theorem okT75:CallOk Tryz.prog (lookT T75):=Af good mixed okT74 (KZ HN)
theorem HU (a b:AV)(h:Heap):Ar a b h=bodyK Tryz.prog (lookT T75) ann 141 [a,b] h:=by kernel_rfl
theorem okT76:CallOk Tryz.prog (lookT T76):=Af good mixed okT75 (Cq HU)
theorem KR (a:AV)(h:Heap):Bo a h=bodyK Tryz.prog (lookT T76) ann 142 [a] h:=by kernel_rfl
theorem okT77:CallOk Tryz.prog (lookT T77):=Af good mixed okT76 (Cs KR)
theorem GO (a b c:AV)(h:Heap):Az a b c h=bodyK Tryz.prog (lookT T77) ann 150 [a,b,c] h:=by kernel_rfl
theorem okT78:CallOk Tryz.prog (lookT T78):=Af good mixed okT77 (KZ GO)
theorem JN (a:AV)(h:Heap):Bz a h=bodyK Tryz.prog (lookT T78) ann 151 [a] h:=by kernel_rfl
theorem okT79:CallOk Tryz.prog (lookT T79):=Af good mixed okT78 (Cs JN)
theorem ID (a b:AV)(h:Heap):Bk a b h=bodyK Tryz.prog (lookT T79) ann 152 [a,b] h:=by kernel_rfl
theorem okT80:CallOk Tryz.prog (lookT T80):=Af good mixed okT79 (Cq ID)
theorem Iw (a b c:AV)(h:Heap):EJ a b c h=bodyK Tryz.prog (lookT T80) ann 138 [a,b,c] h:=by kernel_rfl
theorem okT81:CallOk Tryz.prog (lookT T81):=Af good mixed okT80 (KZ Iw)
theorem Jq (a b:AV)(h:Heap):E8 a b h=bodyK Tryz.prog (lookT T81) ann 139 [a,b] h:=by kernel_rfl
theorem okT82:CallOk Tryz.prog (lookT T82):=Af good mixed okT81 (Cq Jq)
theorem DW (a b:AV)(h:Heap):BI a b h=bodyK Tryz.prog (lookT T82) ann 140 [a,b] h:=by kernel_rfl
theorem okT83:CallOk Tryz.prog (lookT T83):=Af good mixed okT82 (Cq DW)
theorem KB (a b:AV)(h:Heap):Du a b h=bodyK Tryz.prog (lookT T83) ann 114 [a,b] h:=by kernel_rfl
theorem okT84:CallOk Tryz.prog (lookT T84):=Af good mixed okT83 (Cq KB)
theorem IM (a b c:AV)(h:Heap):Dk a b c h=bodyK Tryz.prog (lookT T84) ann 115 [a,b,c] h:=by kernel_rfl
theorem okT85:CallOk Tryz.prog (lookT T85):=Af good mixed okT84 (KZ IM)
theorem Gi (a:AV)(h:Heap):BN a h=bodyK Tryz.prog (lookT T85) ann 77 [a] h:=by kernel_rfl
theorem okT86:CallOk Tryz.prog (lookT T86):=Af good mixed okT85 (Cs Gi)
theorem GV (a b:AV)(h:Heap):BH a b h=bodyK Tryz.prog (lookT T86) ann 46 [a,b] h:=by kernel_rfl
theorem okT87:CallOk Tryz.prog (lookT T87):=Af good mixed okT86 (Cq GV)
theorem H7 (a b:AV)(h:Heap):DV a b h=bodyK Tryz.prog (lookT T87) ann 16 [a,b] h:=by kernel_rfl
theorem okT88:CallOk Tryz.prog (lookT T88):=Af good mixed okT87 (Cq H7)
theorem Iq (a:AV)(h:Heap):Cf a h=bodyK Tryz.prog (lookT T88) ann 9 [a] h:=by kernel_rfl
theorem okT89:CallOk Tryz.prog (lookT T89):=Af good mixed okT88 (Cs Iq)
theorem IP (a:AV)(h:Heap):Cj a h=bodyK Tryz.prog (lookT T89) ann 12 [a] h:=by kernel_rfl
theorem okT90:CallOk Tryz.prog (lookT T90):=Af good mixed okT89 (Cs IP)
theorem Ib (h:Heap):GG h=bodyK Tryz.prog (lookT T90) ann 7 [] h:=by kernel_rfl
theorem Iy:isTrue (GG hQ0)=true:=by kernel_rfl
theorem okT91R:CallOk Tryz.prog (lookT ((7,p0 GG)::T90)):=Af good mixed okT90 (Rf Ib)
theorem okT91:CallOk Tryz.prog (lookT T91):=by
 obtain⟨g,hg⟩:=Jy Iy
 exact MU okT90 okT91R (base0 noGlobal) hg rfl
theorem KT (a:AV)(h:Heap):C3 a h=bodyK Tryz.prog (lookT T91) ann 8 [a] h:=by kernel_rfl
theorem okT92:CallOk Tryz.prog (lookT T92):=Af good mixed okT91 (Cs KT)
theorem Jz (h:Heap):Cx h=bodyK Tryz.prog (lookT T92) ann 23 [] h:=by kernel_rfl
theorem okT93:CallOk Tryz.prog (lookT T93):=Af good mixed okT92 (Rf Jz)
theorem Hm (a b:AV)(h:Heap):Ax a b h=bodyK Tryz.prog (lookT T93) ann 37 [a,b] h:=by kernel_rfl
theorem okT94:CallOk Tryz.prog (lookT T94):=Af good mixed okT93 (Cq Hm)
theorem Kw (a:AV)(h:Heap):FQ a h=bodyK Tryz.prog (lookT T94) ann 40 [a] h:=by kernel_rfl
theorem okT95:CallOk Tryz.prog (lookT T95):=Af good mixed okT94 (Cs Kw)
theorem HQ (a b:AV)(h:Heap):Bh a b h=bodyK Tryz.prog (lookT T95) ann 38 [a,b] h:=by kernel_rfl
theorem okT96:CallOk Tryz.prog (lookT T96):=Af good mixed okT95 (Cq HQ)
theorem G8 (a b:AV)(h:Heap):CP a b h=bodyK Tryz.prog (lookT T96) ann 39 [a,b] h:=by kernel_rfl
theorem okT97:CallOk Tryz.prog (lookT T97):=Af good mixed okT96 (Cq G8)
theorem Hv (a b:AV)(h:Heap):DX a b h=bodyK Tryz.prog (lookT T97) ann 41 [a,b] h:=by kernel_rfl
theorem okT98:CallOk Tryz.prog (lookT T98):=Af good mixed okT97 (Cq Hv)
theorem JO (a:AV)(h:Heap):D2 a h=bodyK Tryz.prog (lookT T98) ann 14 [a] h:=by kernel_rfl
theorem okT99:CallOk Tryz.prog (lookT T99):=Af good mixed okT98 (Cs JO)
theorem Fs (a b:AV)(h:Heap):B6 a b h=bodyK Tryz.prog (lookT T99) ann 22 [a,b] h:=by kernel_rfl
theorem okT100:CallOk Tryz.prog (lookT T100):=Af good mixed okT99 (Cq Fs)
theorem GC (a b:AV)(h:Heap):CI a b h=bodyK Tryz.prog (lookT T100) ann 24 [a,b] h:=by kernel_rfl
theorem okT101:CallOk Tryz.prog (lookT T101):=Af good mixed okT100 (Cq GC)
theorem Hi (a b:AV)(h:Heap):DE a b h=bodyK Tryz.prog (lookT T101) ann 30 [a,b] h:=by kernel_rfl
theorem okT102:CallOk Tryz.prog (lookT T102):=Af good mixed okT101 (Cq Hi)
theorem Gn (a b:AV)(h:Heap):CX a b h=bodyK Tryz.prog (lookT T102) ann 33 [a,b] h:=by kernel_rfl
theorem okT103:CallOk Tryz.prog (lookT T103):=Af good mixed okT102 (Cq Gn)
theorem Gm (a b:AV)(h:Heap):CU a b h=bodyK Tryz.prog (lookT T103) ann 35 [a,b] h:=by kernel_rfl
theorem okT104:CallOk Tryz.prog (lookT T104):=Af good mixed okT103 (Cq Gm)
theorem JL (a:AV)(h:Heap):D0 a h=bodyK Tryz.prog (lookT T104) ann 13 [a] h:=by kernel_rfl
theorem okT105:CallOk Tryz.prog (lookT T105):=Af good mixed okT104 (Cs JL)
theorem HI (a b:AV)(h:Heap):Ca a b h=bodyK Tryz.prog (lookT T105) ann 6 [a,b] h:=by kernel_rfl
theorem okT106:CallOk Tryz.prog (lookT T106):=Af good mixed okT105 (Cq HI)
noncomputable def tab:Tab:=T106
theorem okTab:CallOk Tryz.prog (lookT tab):=okT106
end Go.Proofs.YtdmgkkcjnmmfmaaGreat.qu