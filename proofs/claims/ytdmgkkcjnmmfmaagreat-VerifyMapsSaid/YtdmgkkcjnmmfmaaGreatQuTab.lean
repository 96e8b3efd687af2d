import Derived.Test.YtdmgkkcjnmmfmaaGreatQuFn
import Derived.Test.YtdmgkkcjnmmfmaaGreatBs
import Derived.Test.YtdmgkkcjnmmfmaaGreatAbV
import Derived.Test.YtdmgkkcjnmmfmaaGreatAbQ
import Derived.Test.YtdmgkkcjnmmfmaaGreatLay
namespace Go.Proofs.YtdmgkkcjnmmfmaaGreat.qu
open Go Go.Ab Go.Ab.F
set_option linter.all false
theorem okT0:CallOk Tryz.prog (lookT T0):=Oe
theorem Kx (a:AV)(h:Heap):D3 a h=bodyK Tryz.prog (lookT T0) ann 65 [a] h:=by kernel_rfl
theorem okT1:CallOk Tryz.prog (lookT T1):=Af good mixed okT0 (Cy Kx)
theorem IA (a:AV)(h:Heap):DK a h=bodyK Tryz.prog (lookT T1) ann 64 [a] h:=by kernel_rfl
theorem okT2:CallOk Tryz.prog (lookT T2):=Af good mixed okT1 (Cy IA)
theorem Kw (a:AV)(h:Heap):HI a h=bodyK Tryz.prog (lookT T2) ann 67 [a] h:=by kernel_rfl
theorem okT3:CallOk Tryz.prog (lookT T3):=Af good mixed okT2 (Cy Kw)
theorem IC (a:AV)(h:Heap):DW a h=bodyK Tryz.prog (lookT T3) ann 66 [a] h:=by kernel_rfl
theorem okT4:CallOk Tryz.prog (lookT T4):=Af good mixed okT3 (Cy IC)
theorem Ia (a b:AV)(h:Heap):C1 a b h=bodyK Tryz.prog (lookT T4) ann 124 [a,b] h:=by kernel_rfl
theorem okT5:CallOk Tryz.prog (lookT T5):=Af good mixed okT4 (Cx Ia)
theorem JP (a:AV)(h:Heap):FM a h=bodyK Tryz.prog (lookT T5) ann 146 [a] h:=by kernel_rfl
theorem okT6:CallOk Tryz.prog (lookT T6):=Af good mixed okT5 (Cy JP)
theorem Gr (a b:AV)(h:Heap):Aw a b h=bodyK Tryz.prog (lookT T6) ann 99 [a,b] h:=by kernel_rfl
theorem okT7:CallOk Tryz.prog (lookT T7):=Af good mixed okT6 (Cx Gr)
theorem GC (a b:AV)(h:Heap):Bd a b h=bodyK Tryz.prog (lookT T7) ann 98 [a,b] h:=by kernel_rfl
theorem okT8:CallOk Tryz.prog (lookT T8):=Af good mixed okT7 (Cx GC)
theorem GE (a b:AV)(h:Heap):B8 a b h=bodyK Tryz.prog (lookT T8) ann 107 [a,b] h:=by kernel_rfl
theorem okT9:CallOk Tryz.prog (lookT T9):=Af good mixed okT8 (Cx GE)
theorem Gm (a b c:AV)(h:Heap):C7 a b c h=bodyK Tryz.prog (lookT T9) ann 133 [a,b,c] h:=by kernel_rfl
theorem okT10:CallOk Tryz.prog (lookT T10):=Af good mixed okT9 (Kv Gm)
theorem K0 (a:AV)(h:Heap):Fw a h=bodyK Tryz.prog (lookT T10) ann 60 [a] h:=by kernel_rfl
theorem okT11:CallOk Tryz.prog (lookT T11):=Af good mixed okT10 (Cy K0)
theorem ID (a:AV)(h:Heap):Bn a h=bodyK Tryz.prog (lookT T11) ann 27 [a] h:=by kernel_rfl
theorem okT12:CallOk Tryz.prog (lookT T12):=Af good mixed okT11 (Cy ID)
theorem Ha (a:AV)(h:Heap):C3 a h=bodyK Tryz.prog (lookT T12) ann 29 [a] h:=by kernel_rfl
theorem okT13:CallOk Tryz.prog (lookT T13):=Af good mixed okT12 (Cy Ha)
theorem LY (a:AV)(h:Heap):Fi a h=bodyK Tryz.prog (lookT T13) ann 32 [a] h:=by kernel_rfl
theorem okT14:CallOk Tryz.prog (lookT T14):=Af good mixed okT13 (Cy LY)
theorem H8 (a:AV)(h:Heap):As a h=bodyK Tryz.prog (lookT T14) ann 26 [a] h:=by kernel_rfl
theorem okT15:CallOk Tryz.prog (lookT T15):=Af good mixed okT14 (Cy H8)
theorem Hd (a:AV)(h:Heap):Ds a h=bodyK Tryz.prog (lookT T15) ann 62 [a] h:=by kernel_rfl
theorem okT16:CallOk Tryz.prog (lookT T16):=Af good mixed okT15 (Cy Hd)
theorem Ii (a:AV)(h:Heap):E2 a h=bodyK Tryz.prog (lookT T16) ann 25 [a] h:=by kernel_rfl
theorem okT17:CallOk Tryz.prog (lookT T17):=Af good mixed okT16 (Cy Ii)
theorem Ih (a:AV)(h:Heap):E3 a h=bodyK Tryz.prog (lookT T17) ann 31 [a] h:=by kernel_rfl
theorem okT18:CallOk Tryz.prog (lookT T18):=Af good mixed okT17 (Cy Ih)
theorem Ik (a:AV)(h:Heap):E0 a h=bodyK Tryz.prog (lookT T18) ann 34 [a] h:=by kernel_rfl
theorem okT19:CallOk Tryz.prog (lookT T19):=Af good mixed okT18 (Cy Ik)
theorem KN (a b:AV)(h:Heap):Ca a b h=bodyK Tryz.prog (lookT T19) ann 93 [a,b] h:=by kernel_rfl
theorem okT20:CallOk Tryz.prog (lookT T20):=Af good mixed okT19 (Cx KN)
theorem Jo (a:AV)(h:Heap):C6 a h=bodyK Tryz.prog (lookT T20) ann 94 [a] h:=by kernel_rfl
theorem okT21:CallOk Tryz.prog (lookT T21):=Af good mixed okT20 (Cy Jo)
theorem FV (a b:AV)(h:Heap):BU a b h=bodyK Tryz.prog (lookT T21) ann 132 [a,b] h:=by kernel_rfl
theorem okT22:CallOk Tryz.prog (lookT T22):=Af good mixed okT21 (Cx FV)
theorem FQ (a b:AV)(h:Heap):BI a b h=bodyK Tryz.prog (lookT T22) ann 123 [a,b] h:=by kernel_rfl
theorem okT23:CallOk Tryz.prog (lookT T23):=Af good mixed okT22 (Cx FQ)
theorem okT24:CallOk Tryz.prog (lookT T24):=N9 okT23 sort125Lays (by rfl)
theorem Fq (a:AV)(h:Heap):BQ a h=bodyK Tryz.prog (lookT T24) ann 126 [a] h:=by kernel_rfl
theorem okT25:CallOk Tryz.prog (lookT T25):=Af good mixed okT24 (Cy Fq)
theorem JB (a b c:AV)(h:Heap):CY a b c h=bodyK Tryz.prog (lookT T25) ann 95 [a,b,c] h:=by kernel_rfl
theorem okT26:CallOk Tryz.prog (lookT T26):=Af good mixed okT25 (Kv JB)
theorem Jj (a b c d:AV)(h:Heap):Er a b c d h=bodyK Tryz.prog (lookT T26) ann 92 [a,b,c,d] h:=by kernel_rfl
theorem okT27:CallOk Tryz.prog (lookT T27):=Af good mixed okT26 (Sw Jj)
theorem GA (a b c:AV)(h:Heap):A9 a b c h=bodyK Tryz.prog (lookT T27) ann 105 [a,b,c] h:=by kernel_rfl
theorem okT28:CallOk Tryz.prog (lookT T28):=Af good mixed okT27 (Kv GA)
theorem E4 (a b:AV)(h:Heap):BV a b h=bodyK Tryz.prog (lookT T28) ann 106 [a,b] h:=by kernel_rfl
theorem okT29:CallOk Tryz.prog (lookT T29):=Af good mixed okT28 (Cx E4)
theorem HW (a b c:AV)(h:Heap):Ai a b c h=bodyK Tryz.prog (lookT T29) ann 110 [a,b,c] h:=by kernel_rfl
theorem okT30:CallOk Tryz.prog (lookT T30):=Af good mixed okT29 (Kv HW)
theorem Fs (a b:AV)(h:Heap):CC a b h=bodyK Tryz.prog (lookT T30) ann 111 [a,b] h:=by kernel_rfl
theorem okT31:CallOk Tryz.prog (lookT T31):=Af good mixed okT30 (Cx Fs)
theorem Hf (a:AV)(h:Heap):BZ a h=bodyK Tryz.prog (lookT T31) ann 59 [a] h:=by kernel_rfl
theorem okT32:CallOk Tryz.prog (lookT T32):=Af good mixed okT31 (Cy Hf)
theorem IK (a b:AV)(h:Heap):Cz a b h=bodyK Tryz.prog (lookT T32) ann 28 [a,b] h:=by kernel_rfl
theorem okT33:CallOk Tryz.prog (lookT T33):=Af good mixed okT32 (Cx IK)
theorem GT (a b:AV)(h:Heap):CP a b h=bodyK Tryz.prog (lookT T33) ann 61 [a,b] h:=by kernel_rfl
theorem okT34:CallOk Tryz.prog (lookT T34):=Af good mixed okT33 (Cx GT)
theorem Hq (a b:AV)(h:Heap):C8 a b h=bodyK Tryz.prog (lookT T34) ann 63 [a,b] h:=by kernel_rfl
theorem okT35:CallOk Tryz.prog (lookT T35):=Af good mixed okT34 (Cx Hq)
theorem IW (a:AV)(h:Heap):Dj a h=bodyK Tryz.prog (lookT T35) ann 36 [a] h:=by kernel_rfl
theorem okT36:CallOk Tryz.prog (lookT T36):=Af good mixed okT35 (Cy IW)
theorem Ks (a:AV)(h:Heap):FC a h=bodyK Tryz.prog (lookT T36) ann 15 [a] h:=by kernel_rfl
theorem okT37:CallOk Tryz.prog (lookT T37):=Af good mixed okT36 (Cy Ks)
theorem Dc (a b:AV)(h:Heap):BS a b h=bodyK Tryz.prog (lookT T37) ann 90 [a,b] h:=by kernel_rfl
theorem okT38:CallOk Tryz.prog (lookT T38):=Af good mixed okT37 (Cx Dc)
theorem DI (a b:AV)(h:Heap):A3 a b h=bodyK Tryz.prog (lookT T38) ann 68 [a,b] h:=by kernel_rfl
theorem okT39:CallOk Tryz.prog (lookT T39):=Af good mixed okT38 (Cx DI)
theorem Et (a b:AV)(h:Heap):Bu a b h=bodyK Tryz.prog (lookT T39) ann 91 [a,b] h:=by kernel_rfl
theorem okT40:CallOk Tryz.prog (lookT T40):=Af good mixed okT39 (Cx Et)
theorem EZ (a b:AV)(h:Heap):BW a b h=bodyK Tryz.prog (lookT T40) ann 69 [a,b] h:=by kernel_rfl
theorem okT41:CallOk Tryz.prog (lookT T41):=Af good mixed okT40 (Cx EZ)
theorem Iy (a:AV)(h:Heap):EE a h=bodyK Tryz.prog (lookT T41) ann 42 [a] h:=by kernel_rfl
theorem okT42:CallOk Tryz.prog (lookT T42):=Af good mixed okT41 (Cy Iy)
theorem JE (a:AV)(h:Heap):BK a h=bodyK Tryz.prog (lookT T42) ann 43 [a] h:=by kernel_rfl
theorem okT43:CallOk Tryz.prog (lookT T43):=Af good mixed okT42 (Cy JE)
theorem MN (a b:AV)(h:Heap):Es a b h=bodyK Tryz.prog (lookT T43) ann 128 [a,b] h:=by kernel_rfl
theorem okT44:CallOk Tryz.prog (lookT T44):=Af good mixed okT43 (Cx MN)
theorem MB (a b:AV)(h:Heap):Dm a b h=bodyK Tryz.prog (lookT T44) ann 127 [a,b] h:=by kernel_rfl
theorem okT45:CallOk Tryz.prog (lookT T45):=Af good mixed okT44 (Cx MB)
theorem Kn (a:AV)(h:Heap):EC a h=bodyK Tryz.prog (lookT T45) ann 129 [a] h:=by kernel_rfl
theorem okT46:CallOk Tryz.prog (lookT T46):=Af good mixed okT45 (Cy Kn)
theorem I4 (a:AV)(h:Heap):EQ a h=bodyK Tryz.prog (lookT T46) ann 130 [a] h:=by kernel_rfl
theorem okT47:CallOk Tryz.prog (lookT T47):=Af good mixed okT46 (Cy I4)
theorem Kg (a b:AV)(h:Heap):Aj a b h=bodyK Tryz.prog (lookT T47) ann 96 [a,b] h:=by kernel_rfl
theorem okT48:CallOk Tryz.prog (lookT T48):=Af good mixed okT47 (Cx Kg)
theorem Jk (a:AV)(h:Heap):BC a h=bodyK Tryz.prog (lookT T48) ann 97 [a] h:=by kernel_rfl
theorem okT49:CallOk Tryz.prog (lookT T49):=Af good mixed okT48 (Cy Jk)
theorem Kr (a b:AV)(h:Heap):Fj a b h=bodyK Tryz.prog (lookT T49) ann 70 [a,b] h:=by kernel_rfl
theorem okT50:CallOk Tryz.prog (lookT T50):=Af good mixed okT49 (Cx Kr)
theorem Ku (a b:AV)(h:Heap):GD a b h=bodyK Tryz.prog (lookT T50) ann 44 [a,b] h:=by kernel_rfl
theorem okT51:CallOk Tryz.prog (lookT T51):=Af good mixed okT50 (Cx Ku)
theorem Gc (a b:AV)(h:Heap):Cu a b h=bodyK Tryz.prog (lookT T51) ann 71 [a,b] h:=by kernel_rfl
theorem okT52:CallOk Tryz.prog (lookT T52):=Af good mixed okT51 (Cx Gc)
theorem Fe (a b:AV)(h:Heap):B0 a b h=bodyK Tryz.prog (lookT T52) ann 45 [a,b] h:=by kernel_rfl
theorem okT53:CallOk Tryz.prog (lookT T53):=Af good mixed okT52 (Cx Fe)
theorem HS (a b:AV)(h:Heap):A6 a b h=bodyK Tryz.prog (lookT T53) ann 102 [a,b] h:=by kernel_rfl
theorem okT54:CallOk Tryz.prog (lookT T54):=Af good mixed okT53 (Cx HS)
theorem GG (a b:AV)(h:Heap):Bt a b h=bodyK Tryz.prog (lookT T54) ann 101 [a,b] h:=by kernel_rfl
theorem okT55:CallOk Tryz.prog (lookT T55):=Af good mixed okT54 (Cx GG)
theorem HJ (a b c:AV)(h:Heap):A8 a b c h=bodyK Tryz.prog (lookT T55) ann 100 [a,b,c] h:=by kernel_rfl
theorem okT56:CallOk Tryz.prog (lookT T56):=Af good mixed okT55 (Kv HJ)
theorem GK (a:AV)(h:Heap):Az a h=bodyK Tryz.prog (lookT T56) ann 103 [a] h:=by kernel_rfl
theorem okT57:CallOk Tryz.prog (lookT T57):=Af good mixed okT56 (Cy GK)
theorem Dq (a b:AV)(h:Heap):Bb a b h=bodyK Tryz.prog (lookT T57) ann 131 [a,b] h:=by kernel_rfl
theorem okT58:CallOk Tryz.prog (lookT T58):=Af good mixed okT57 (Cx Dq)
theorem DZ (a b:AV)(h:Heap):Ax a b h=bodyK Tryz.prog (lookT T58) ann 104 [a,b] h:=by kernel_rfl
theorem okT59:CallOk Tryz.prog (lookT T59):=Af good mixed okT58 (Cx DZ)
theorem Gk (a:AV)(h:Heap):CM a h=bodyK Tryz.prog (lookT T59) ann 72 [a] h:=by kernel_rfl
theorem okT60:CallOk Tryz.prog (lookT T60):=Af good mixed okT59 (Cy Gk)
theorem GR (a b c:AV)(h:Heap):BL a b c h=bodyK Tryz.prog (lookT T60) ann 108 [a,b,c] h:=by kernel_rfl
theorem okT61:CallOk Tryz.prog (lookT T61):=Af good mixed okT60 (Kv GR)
theorem GM (a:AV)(h:Heap):Bz a h=bodyK Tryz.prog (lookT T61) ann 109 [a] h:=by kernel_rfl
theorem okT62:CallOk Tryz.prog (lookT T62):=Af good mixed okT61 (Cy GM)
theorem GU (a:AV)(h:Heap):Bw a h=bodyK Tryz.prog (lookT T62) ann 73 [a] h:=by kernel_rfl
theorem okT63:CallOk Tryz.prog (lookT T63):=Af good mixed okT62 (Cy GU)
theorem Gp (a b c d e:AV)(h:Heap):Br a b c d e h=bodyK Tryz.prog (lookT T63) ann 134 [a,b,c,d,e] h:=by kernel_rfl
theorem okT64:CallOk Tryz.prog (lookT T64):=Af good mixed okT63 (TL Gp)
theorem Gj (a:AV)(h:Heap):Bv a h=bodyK Tryz.prog (lookT T64) ann 112 [a] h:=by kernel_rfl
theorem okT65:CallOk Tryz.prog (lookT T65):=Af good mixed okT64 (Cy Gj)
theorem Ge (a:AV)(h:Heap):CR a h=bodyK Tryz.prog (lookT T65) ann 74 [a] h:=by kernel_rfl
theorem okT66:CallOk Tryz.prog (lookT T66):=Af good mixed okT65 (Cy Ge)
theorem Fz (a:AV)(h:Heap):BJ a h=bodyK Tryz.prog (lookT T66) ann 113 [a] h:=by kernel_rfl
theorem okT67:CallOk Tryz.prog (lookT T67):=Af good mixed okT66 (Cy Fz)
theorem HR (a:AV)(h:Heap):Cp a h=bodyK Tryz.prog (lookT T67) ann 75 [a] h:=by kernel_rfl
theorem okT68:CallOk Tryz.prog (lookT T68):=Af good mixed okT67 (Cy HR)
theorem Gl (a:AV)(h:Heap):Cd a h=bodyK Tryz.prog (lookT T68) ann 76 [a] h:=by kernel_rfl
theorem okT69:CallOk Tryz.prog (lookT T69):=Af good mixed okT68 (Cy Gl)
theorem De (a:AV)(h:Heap):Ap a h=bodyK Tryz.prog (lookT T69) ann 135 [a] h:=by kernel_rfl
theorem okT70:CallOk Tryz.prog (lookT T70):=Af good mixed okT69 (Cy De)
theorem Kc (a b:AV)(h:Heap):Cl a b h=bodyK Tryz.prog (lookT T70) ann 137 [a,b] h:=by kernel_rfl
theorem okT71:CallOk Tryz.prog (lookT T71):=Af good mixed okT70 (Cx Kc)
theorem HY (a b:AV)(h:Heap):Aq a b h=bodyK Tryz.prog (lookT T71) ann 136 [a,b] h:=by kernel_rfl
theorem okT72:CallOk Tryz.prog (lookT T72):=Af good mixed okT71 (Cx HY)
theorem KE (a:AV)(h:Heap):Ck a h=bodyK Tryz.prog (lookT T72) ann 148 [a] h:=by kernel_rfl
theorem okT73:CallOk Tryz.prog (lookT T73):=Af good mixed okT72 (Cy KE)
theorem J4 (a:AV)(h:Heap):En a h=bodyK Tryz.prog (lookT T73) ann 147 [a] h:=by kernel_rfl
theorem okT74:CallOk Tryz.prog (lookT T74):=Af good mixed okT73 (Cy J4)
theorem Hp (a b c:AV)(h:Heap):BA a b c h=bodyK Tryz.prog (lookT T74) ann 149 [a,b,c] h:=by kernel_rfl
theorem okT75:CallOk Tryz.prog (lookT T75):=Af good mixed okT74 (Kv Hp)
theorem HZ (a b:AV)(h:Heap):Ar a b h=bodyK Tryz.prog (lookT T75) ann 141 [a,b] h:=by kernel_rfl
theorem okT76:CallOk Tryz.prog (lookT T76):=Af good mixed okT75 (Cx HZ)
theorem Ky (a:AV)(h:Heap):Bp a h=bodyK Tryz.prog (lookT T76) ann 142 [a] h:=by kernel_rfl
theorem okT77:CallOk Tryz.prog (lookT T77):=Af good mixed okT76 (Cy Ky)
theorem Gi (a b c:AV)(h:Heap):A1 a b c h=bodyK Tryz.prog (lookT T77) ann 150 [a,b,c] h:=by kernel_rfl
theorem okT78:CallOk Tryz.prog (lookT T78):=Af good mixed okT77 (Kv Gi)
theorem Ji (a:AV)(h:Heap):B6 a h=bodyK Tryz.prog (lookT T78) ann 151 [a] h:=by kernel_rfl
theorem okT79:CallOk Tryz.prog (lookT T79):=Af good mixed okT78 (Cy Ji)
theorem IP (a b:AV)(h:Heap):Bl a b h=bodyK Tryz.prog (lookT T79) ann 152 [a,b] h:=by kernel_rfl
theorem okT80:CallOk Tryz.prog (lookT T80):=Af good mixed okT79 (Cx IP)
theorem JG (a b c:AV)(h:Heap):EY a b c h=bodyK Tryz.prog (lookT T80) ann 138 [a,b,c] h:=by kernel_rfl
theorem okT81:CallOk Tryz.prog (lookT T81):=Af good mixed okT80 (Kv JG)
theorem J2 (a b:AV)(h:Heap):FO a b h=bodyK Tryz.prog (lookT T81) ann 139 [a,b] h:=by kernel_rfl
theorem okT82:CallOk Tryz.prog (lookT T82):=Af good mixed okT81 (Cx J2)
theorem Dk (a b:AV)(h:Heap):BF a b h=bodyK Tryz.prog (lookT T82) ann 140 [a,b] h:=by kernel_rfl
theorem okT83:CallOk Tryz.prog (lookT T83):=Af good mixed okT82 (Cx Dk)
theorem Ka (a b:AV)(h:Heap):D7 a b h=bodyK Tryz.prog (lookT T83) ann 114 [a,b] h:=by kernel_rfl
theorem okT84:CallOk Tryz.prog (lookT T84):=Af good mixed okT83 (Cx Ka)
theorem Iw (a b c:AV)(h:Heap):EA a b c h=bodyK Tryz.prog (lookT T84) ann 115 [a,b,c] h:=by kernel_rfl
theorem okT85:CallOk Tryz.prog (lookT T85):=Af good mixed okT84 (Kv Iw)
theorem G5 (a:AV)(h:Heap):BM a h=bodyK Tryz.prog (lookT T85) ann 77 [a] h:=by kernel_rfl
theorem okT86:CallOk Tryz.prog (lookT T86):=Af good mixed okT85 (Cy G5)
theorem G3 (a b:AV)(h:Heap):BH a b h=bodyK Tryz.prog (lookT T86) ann 46 [a,b] h:=by kernel_rfl
theorem okT87:CallOk Tryz.prog (lookT T87):=Af good mixed okT86 (Cx G3)
theorem Ic (a b:AV)(h:Heap):Df a b h=bodyK Tryz.prog (lookT T87) ann 16 [a,b] h:=by kernel_rfl
theorem okT88:CallOk Tryz.prog (lookT T88):=Af good mixed okT87 (Cx Ic)
theorem JF (a:AV)(h:Heap):Cm a h=bodyK Tryz.prog (lookT T88) ann 9 [a] h:=by kernel_rfl
theorem okT89:CallOk Tryz.prog (lookT T89):=Af good mixed okT88 (Cy JF)
theorem Ie (a:AV)(h:Heap):Cc a h=bodyK Tryz.prog (lookT T89) ann 12 [a] h:=by kernel_rfl
theorem okT90:CallOk Tryz.prog (lookT T90):=Af good mixed okT89 (Cy Ie)
theorem JK (h:Heap):GZ h=bodyK Tryz.prog (lookT T90) ann 7 [] h:=by kernel_rfl
theorem I2:isTrue (GZ hQ0)=true:=by kernel_rfl
theorem okT91R:CallOk Tryz.prog (lookT ((7,p0 GZ)::T90)):=Af good mixed okT90 (Sd JK)
theorem okT91:CallOk Tryz.prog (lookT T91):=by
 obtain⟨g,hg⟩:=Km I2
 exact Mh okT90 okT91R (base0 noGlobal) hg rfl
theorem Kz (a:AV)(h:Heap):DG a h=bodyK Tryz.prog (lookT T91) ann 8 [a] h:=by kernel_rfl
theorem okT92:CallOk Tryz.prog (lookT T92):=Af good mixed okT91 (Cy Kz)
theorem KU (h:Heap):C4 h=bodyK Tryz.prog (lookT T92) ann 23 [] h:=by kernel_rfl
theorem okT93:CallOk Tryz.prog (lookT T93):=Af good mixed okT92 (Sd KU)
theorem IB (a b:AV)(h:Heap):Ay a b h=bodyK Tryz.prog (lookT T93) ann 37 [a,b] h:=by kernel_rfl
theorem okT94:CallOk Tryz.prog (lookT T94):=Af good mixed okT93 (Cx IB)
theorem MG (a:AV)(h:Heap):Fh a h=bodyK Tryz.prog (lookT T94) ann 40 [a] h:=by kernel_rfl
theorem okT95:CallOk Tryz.prog (lookT T95):=Af good mixed okT94 (Cy MG)
theorem Ho (a b:AV)(h:Heap):Bh a b h=bodyK Tryz.prog (lookT T95) ann 38 [a,b] h:=by kernel_rfl
theorem okT96:CallOk Tryz.prog (lookT T96):=Af good mixed okT95 (Cx Ho)
theorem HU (a b:AV)(h:Heap):CS a b h=bodyK Tryz.prog (lookT T96) ann 39 [a,b] h:=by kernel_rfl
theorem okT97:CallOk Tryz.prog (lookT T97):=Af good mixed okT96 (Cx HU)
theorem IL (a b:AV)(h:Heap):Dh a b h=bodyK Tryz.prog (lookT T97) ann 41 [a,b] h:=by kernel_rfl
theorem okT98:CallOk Tryz.prog (lookT T98):=Af good mixed okT97 (Cx IL)
theorem Jh (a:AV)(h:Heap):EF a h=bodyK Tryz.prog (lookT T98) ann 14 [a] h:=by kernel_rfl
theorem okT99:CallOk Tryz.prog (lookT T99):=Af good mixed okT98 (Cy Jh)
theorem Fp (a b:AV)(h:Heap):B7 a b h=bodyK Tryz.prog (lookT T99) ann 22 [a,b] h:=by kernel_rfl
theorem okT100:CallOk Tryz.prog (lookT T100):=Af good mixed okT99 (Cx Fp)
theorem GX (a b:AV)(h:Heap):CO a b h=bodyK Tryz.prog (lookT T100) ann 24 [a,b] h:=by kernel_rfl
theorem okT101:CallOk Tryz.prog (lookT T101):=Af good mixed okT100 (Cx GX)
theorem H9 (a b:AV)(h:Heap):DR a b h=bodyK Tryz.prog (lookT T101) ann 30 [a,b] h:=by kernel_rfl
theorem okT102:CallOk Tryz.prog (lookT T102):=Af good mixed okT101 (Cx H9)
theorem Gv (a b:AV)(h:Heap):Ce a b h=bodyK Tryz.prog (lookT T102) ann 33 [a,b] h:=by kernel_rfl
theorem okT103:CallOk Tryz.prog (lookT T103):=Af good mixed okT102 (Cx Gv)
theorem Gy (a b:AV)(h:Heap):Cb a b h=bodyK Tryz.prog (lookT T103) ann 35 [a,b] h:=by kernel_rfl
theorem okT104:CallOk Tryz.prog (lookT T104):=Af good mixed okT103 (Cx Gy)
theorem Jt (a:AV)(h:Heap):EI a h=bodyK Tryz.prog (lookT T104) ann 13 [a] h:=by kernel_rfl
theorem okT105:CallOk Tryz.prog (lookT T105):=Af good mixed okT104 (Cy Jt)
theorem Hk (a b c d:AV)(h:Heap):Cg a b c d h=bodyK Tryz.prog (lookT T105) ann 4 [a,b,c,d] h:=by kernel_rfl
theorem okT106:CallOk Tryz.prog (lookT T106):=Af good mixed okT105 (Sw Hk)
noncomputable def tab:Tab:=T106
theorem okTab:CallOk Tryz.prog (lookT tab):=okT106
end Go.Proofs.YtdmgkkcjnmmfmaaGreat.qu