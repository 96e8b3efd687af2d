import Derived.Test.YtdmgkkcjnmmfmaaGreatQuFn
import Derived.Test.YtdmgkkcjnmmfmaaGreatBs
import Derived.Test.YtdmgkkcjnmmfmaaGreatAbV
import Derived.Test.YtdmgkkcjnmmfmaaGreatAbQ
import Derived.Test.YtdmgkkcjnmmfmaaGreatLay
namespace Go.Proofs.YtdmgkkcjnmmfmaaGreat.qu
open Go Go.Ab Go.Ab.F
set_option linter.all false
theorem okT0:CallOk Tryz.prog (lookT T0):=Pn
theorem Kw (a:AV)(h:Heap):D6 a h=bodyK Tryz.prog (lookT T0) ann 65 [a] h:=by kernel_rfl
theorem okT1:CallOk Tryz.prog (lookT T1):=Ag good mixed okT0 (C0 Kw)
theorem IB (a:AV)(h:Heap):DY a h=bodyK Tryz.prog (lookT T1) ann 64 [a] h:=by kernel_rfl
theorem okT2:CallOk Tryz.prog (lookT T2):=Ag good mixed okT1 (C0 IB)
theorem Ky (a:AV)(h:Heap):HE a h=bodyK Tryz.prog (lookT T2) ann 67 [a] h:=by kernel_rfl
theorem okT3:CallOk Tryz.prog (lookT T3):=Ag good mixed okT2 (C0 Ky)
theorem ID (a:AV)(h:Heap):DZ a h=bodyK Tryz.prog (lookT T3) ann 66 [a] h:=by kernel_rfl
theorem okT4:CallOk Tryz.prog (lookT T4):=Ag good mixed okT3 (C0 ID)
theorem Ig (a b:AV)(h:Heap):C4 a b h=bodyK Tryz.prog (lookT T4) ann 124 [a,b] h:=by kernel_rfl
theorem okT5:CallOk Tryz.prog (lookT T5):=Ag good mixed okT4 (Cz Ig)
theorem JA (a:AV)(h:Heap):FN a h=bodyK Tryz.prog (lookT T5) ann 146 [a] h:=by kernel_rfl
theorem okT6:CallOk Tryz.prog (lookT T6):=Ag good mixed okT5 (C0 JA)
theorem G5 (a b:AV)(h:Heap):Ax a b h=bodyK Tryz.prog (lookT T6) ann 99 [a,b] h:=by kernel_rfl
theorem okT7:CallOk Tryz.prog (lookT T7):=Ag good mixed okT6 (Cz G5)
theorem Fo (a b:AV)(h:Heap):Bj a b h=bodyK Tryz.prog (lookT T7) ann 98 [a,b] h:=by kernel_rfl
theorem okT8:CallOk Tryz.prog (lookT T8):=Ag good mixed okT7 (Cz Fo)
theorem Fq (a b:AV)(h:Heap):CG a b h=bodyK Tryz.prog (lookT T8) ann 107 [a,b] h:=by kernel_rfl
theorem okT9:CallOk Tryz.prog (lookT T9):=Ag good mixed okT8 (Cz Fq)
theorem Gu (a b c:AV)(h:Heap):C9 a b c h=bodyK Tryz.prog (lookT T9) ann 133 [a,b,c] h:=by kernel_rfl
theorem okT10:CallOk Tryz.prog (lookT T10):=Ag good mixed okT9 (KY Gu)
theorem Kz (a:AV)(h:Heap):Fv a h=bodyK Tryz.prog (lookT T10) ann 60 [a] h:=by kernel_rfl
theorem okT11:CallOk Tryz.prog (lookT T11):=Ag good mixed okT10 (C0 Kz)
theorem IC (a:AV)(h:Heap):Bq a h=bodyK Tryz.prog (lookT T11) ann 27 [a] h:=by kernel_rfl
theorem okT12:CallOk Tryz.prog (lookT T12):=Ag good mixed okT11 (C0 IC)
theorem He (a:AV)(h:Heap):C6 a h=bodyK Tryz.prog (lookT T12) ann 29 [a] h:=by kernel_rfl
theorem okT13:CallOk Tryz.prog (lookT T13):=Ag good mixed okT12 (C0 He)
theorem LP (a:AV)(h:Heap):Fi a h=bodyK Tryz.prog (lookT T13) ann 32 [a] h:=by kernel_rfl
theorem okT14:CallOk Tryz.prog (lookT T14):=Ag good mixed okT13 (C0 LP)
theorem IE (a:AV)(h:Heap):Au a h=bodyK Tryz.prog (lookT T14) ann 26 [a] h:=by kernel_rfl
theorem okT15:CallOk Tryz.prog (lookT T15):=Ag good mixed okT14 (C0 IE)
theorem Hi (a:AV)(h:Heap):Dv a h=bodyK Tryz.prog (lookT T15) ann 62 [a] h:=by kernel_rfl
theorem okT16:CallOk Tryz.prog (lookT T16):=Ag good mixed okT15 (C0 Hi)
theorem Io (a:AV)(h:Heap):Ev a h=bodyK Tryz.prog (lookT T16) ann 25 [a] h:=by kernel_rfl
theorem okT17:CallOk Tryz.prog (lookT T17):=Ag good mixed okT16 (C0 Io)
theorem Is (a:AV)(h:Heap):E4 a h=bodyK Tryz.prog (lookT T17) ann 31 [a] h:=by kernel_rfl
theorem okT18:CallOk Tryz.prog (lookT T18):=Ag good mixed okT17 (C0 Is)
theorem Ir (a:AV)(h:Heap):E5 a h=bodyK Tryz.prog (lookT T18) ann 34 [a] h:=by kernel_rfl
theorem okT19:CallOk Tryz.prog (lookT T19):=Ag good mixed okT18 (C0 Ir)
theorem Kb (a b:AV)(h:Heap):Ci a b h=bodyK Tryz.prog (lookT T19) ann 93 [a,b] h:=by kernel_rfl
theorem okT20:CallOk Tryz.prog (lookT T20):=Ag good mixed okT19 (Cz Kb)
theorem Jr (a:AV)(h:Heap):DC a h=bodyK Tryz.prog (lookT T20) ann 94 [a] h:=by kernel_rfl
theorem okT21:CallOk Tryz.prog (lookT T21):=Ag good mixed okT20 (C0 Jr)
theorem FY (a b:AV)(h:Heap):BW a b h=bodyK Tryz.prog (lookT T21) ann 132 [a,b] h:=by kernel_rfl
theorem okT22:CallOk Tryz.prog (lookT T22):=Ag good mixed okT21 (Cz FY)
theorem FU (a b:AV)(h:Heap):BK a b h=bodyK Tryz.prog (lookT T22) ann 123 [a,b] h:=by kernel_rfl
theorem okT23:CallOk Tryz.prog (lookT T23):=Ag good mixed okT22 (Cz FU)
theorem okT24:CallOk Tryz.prog (lookT T24):=OD okT23 sort125Lays (by rfl)
theorem Fz (a:AV)(h:Heap):BU a h=bodyK Tryz.prog (lookT T24) ann 126 [a] h:=by kernel_rfl
theorem okT25:CallOk Tryz.prog (lookT T25):=Ag good mixed okT24 (C0 Fz)
theorem I2 (a b c:AV)(h:Heap):CZ a b c h=bodyK Tryz.prog (lookT T25) ann 95 [a,b,c] h:=by kernel_rfl
theorem okT26:CallOk Tryz.prog (lookT T26):=Ag good mixed okT25 (KY I2)
theorem Jn (a b c d:AV)(h:Heap):Es a b c d h=bodyK Tryz.prog (lookT T26) ann 92 [a,b,c,d] h:=by kernel_rfl
theorem okT27:CallOk Tryz.prog (lookT T27):=Ag good mixed okT26 (Sx Jn)
theorem F4 (a b c:AV)(h:Heap):BC a b c h=bodyK Tryz.prog (lookT T27) ann 105 [a,b,c] h:=by kernel_rfl
theorem okT28:CallOk Tryz.prog (lookT T28):=Ag good mixed okT27 (KY F4)
theorem E6 (a b:AV)(h:Heap):BZ a b h=bodyK Tryz.prog (lookT T28) ann 106 [a,b] h:=by kernel_rfl
theorem okT29:CallOk Tryz.prog (lookT T29):=Ag good mixed okT28 (Cz E6)
theorem HY (a b c:AV)(h:Heap):Aj a b c h=bodyK Tryz.prog (lookT T29) ann 110 [a,b,c] h:=by kernel_rfl
theorem okT30:CallOk Tryz.prog (lookT T30):=Ag good mixed okT29 (KY HY)
theorem GA (a b:AV)(h:Heap):CC a b h=bodyK Tryz.prog (lookT T30) ann 111 [a,b] h:=by kernel_rfl
theorem okT31:CallOk Tryz.prog (lookT T31):=Ag good mixed okT30 (Cz GA)
theorem Hf (a:AV)(h:Heap):Bb a h=bodyK Tryz.prog (lookT T31) ann 59 [a] h:=by kernel_rfl
theorem okT32:CallOk Tryz.prog (lookT T32):=Ag good mixed okT31 (C0 Hf)
theorem IM (a b:AV)(h:Heap):C3 a b h=bodyK Tryz.prog (lookT T32) ann 28 [a,b] h:=by kernel_rfl
theorem okT33:CallOk Tryz.prog (lookT T33):=Ag good mixed okT32 (Cz IM)
theorem GQ (a b:AV)(h:Heap):CS a b h=bodyK Tryz.prog (lookT T33) ann 61 [a,b] h:=by kernel_rfl
theorem okT34:CallOk Tryz.prog (lookT T34):=Ag good mixed okT33 (Cz GQ)
theorem Hg (a b:AV)(h:Heap):C7 a b h=bodyK Tryz.prog (lookT T34) ann 63 [a,b] h:=by kernel_rfl
theorem okT35:CallOk Tryz.prog (lookT T35):=Ag good mixed okT34 (Cz Hg)
theorem Ie (a:AV)(h:Heap):Dk a h=bodyK Tryz.prog (lookT T35) ann 36 [a] h:=by kernel_rfl
theorem okT36:CallOk Tryz.prog (lookT T36):=Ag good mixed okT35 (C0 Ie)
theorem Kq (a:AV)(h:Heap):FG a h=bodyK Tryz.prog (lookT T36) ann 15 [a] h:=by kernel_rfl
theorem okT37:CallOk Tryz.prog (lookT T37):=Ag good mixed okT36 (C0 Kq)
theorem Dh (a b:AV)(h:Heap):BV a b h=bodyK Tryz.prog (lookT T37) ann 90 [a,b] h:=by kernel_rfl
theorem okT38:CallOk Tryz.prog (lookT T38):=Ag good mixed okT37 (Cz Dh)
theorem DL (a b:AV)(h:Heap):BA a b h=bodyK Tryz.prog (lookT T38) ann 68 [a,b] h:=by kernel_rfl
theorem okT39:CallOk Tryz.prog (lookT T39):=Ag good mixed okT38 (Cz DL)
theorem Ew (a b:AV)(h:Heap):Bz a b h=bodyK Tryz.prog (lookT T39) ann 91 [a,b] h:=by kernel_rfl
theorem okT40:CallOk Tryz.prog (lookT T40):=Ag good mixed okT39 (Cz Ew)
theorem EZ (a b:AV)(h:Heap):Ba a b h=bodyK Tryz.prog (lookT T40) ann 69 [a,b] h:=by kernel_rfl
theorem okT41:CallOk Tryz.prog (lookT T41):=Ag good mixed okT40 (Cz EZ)
theorem Iq (a:AV)(h:Heap):EB a h=bodyK Tryz.prog (lookT T41) ann 42 [a] h:=by kernel_rfl
theorem okT42:CallOk Tryz.prog (lookT T42):=Ag good mixed okT41 (C0 Iq)
theorem JH (a:AV)(h:Heap):BO a h=bodyK Tryz.prog (lookT T42) ann 43 [a] h:=by kernel_rfl
theorem okT43:CallOk Tryz.prog (lookT T43):=Ag good mixed okT42 (C0 JH)
theorem Mp (a b:AV)(h:Heap):Eq a b h=bodyK Tryz.prog (lookT T43) ann 128 [a,b] h:=by kernel_rfl
theorem okT44:CallOk Tryz.prog (lookT T44):=Ag good mixed okT43 (Cz Mp)
theorem Li (a b:AV)(h:Heap):Dr a b h=bodyK Tryz.prog (lookT T44) ann 127 [a,b] h:=by kernel_rfl
theorem okT45:CallOk Tryz.prog (lookT T45):=Ag good mixed okT44 (Cz Li)
theorem Kh (a:AV)(h:Heap):D9 a h=bodyK Tryz.prog (lookT T45) ann 129 [a] h:=by kernel_rfl
theorem okT46:CallOk Tryz.prog (lookT T46):=Ag good mixed okT45 (C0 Kh)
theorem JO (a:AV)(h:Heap):EY a h=bodyK Tryz.prog (lookT T46) ann 130 [a] h:=by kernel_rfl
theorem okT47:CallOk Tryz.prog (lookT T47):=Ag good mixed okT46 (C0 JO)
theorem J4 (a b:AV)(h:Heap):Ak a b h=bodyK Tryz.prog (lookT T47) ann 96 [a,b] h:=by kernel_rfl
theorem okT48:CallOk Tryz.prog (lookT T48):=Ag good mixed okT47 (Cz J4)
theorem Jj (a:AV)(h:Heap):BH a h=bodyK Tryz.prog (lookT T48) ann 97 [a] h:=by kernel_rfl
theorem okT49:CallOk Tryz.prog (lookT T49):=Ag good mixed okT48 (C0 Jj)
theorem Kt (a b:AV)(h:Heap):GE a b h=bodyK Tryz.prog (lookT T49) ann 70 [a,b] h:=by kernel_rfl
theorem okT50:CallOk Tryz.prog (lookT T50):=Ag good mixed okT49 (Cz Kt)
theorem K1 (a b:AV)(h:Heap):F9 a b h=bodyK Tryz.prog (lookT T50) ann 44 [a,b] h:=by kernel_rfl
theorem okT51:CallOk Tryz.prog (lookT T51):=Ag good mixed okT50 (Cz K1)
theorem GN (a b:AV)(h:Heap):Cx a b h=bodyK Tryz.prog (lookT T51) ann 71 [a,b] h:=by kernel_rfl
theorem okT52:CallOk Tryz.prog (lookT T52):=Ag good mixed okT51 (Cz GN)
theorem Fh (a b:AV)(h:Heap):B8 a b h=bodyK Tryz.prog (lookT T52) ann 45 [a,b] h:=by kernel_rfl
theorem okT53:CallOk Tryz.prog (lookT T53):=Ag good mixed okT52 (Cz Fh)
theorem HW (a b:AV)(h:Heap):A8 a b h=bodyK Tryz.prog (lookT T53) ann 102 [a,b] h:=by kernel_rfl
theorem okT54:CallOk Tryz.prog (lookT T54):=Ag good mixed okT53 (Cz HW)
theorem GI (a b:AV)(h:Heap):Bw a b h=bodyK Tryz.prog (lookT T54) ann 101 [a,b] h:=by kernel_rfl
theorem okT55:CallOk Tryz.prog (lookT T55):=Ag good mixed okT54 (Cz GI)
theorem HN (a b c:AV)(h:Heap):BB a b c h=bodyK Tryz.prog (lookT T55) ann 100 [a,b,c] h:=by kernel_rfl
theorem okT56:CallOk Tryz.prog (lookT T56):=Ag good mixed okT55 (KY HN)
theorem Gk (a:AV)(h:Heap):A1 a h=bodyK Tryz.prog (lookT T56) ann 103 [a] h:=by kernel_rfl
theorem okT57:CallOk Tryz.prog (lookT T57):=Ag good mixed okT56 (C0 Gk)
theorem Du (a b:AV)(h:Heap):Be a b h=bodyK Tryz.prog (lookT T57) ann 131 [a,b] h:=by kernel_rfl
theorem okT58:CallOk Tryz.prog (lookT T58):=Ag good mixed okT57 (Cz Du)
theorem Dc (a b:AV)(h:Heap):Az a b h=bodyK Tryz.prog (lookT T58) ann 104 [a,b] h:=by kernel_rfl
theorem okT59:CallOk Tryz.prog (lookT T59):=Ag good mixed okT58 (Cz Dc)
theorem GV (a:AV)(h:Heap):CP a h=bodyK Tryz.prog (lookT T59) ann 72 [a] h:=by kernel_rfl
theorem okT60:CallOk Tryz.prog (lookT T60):=Ag good mixed okT59 (C0 GV)
theorem Gi (a b c:AV)(h:Heap):BN a b c h=bodyK Tryz.prog (lookT T60) ann 108 [a,b,c] h:=by kernel_rfl
theorem okT61:CallOk Tryz.prog (lookT T61):=Ag good mixed okT60 (KY Gi)
theorem Gd (a:AV)(h:Heap):B6 a h=bodyK Tryz.prog (lookT T61) ann 109 [a] h:=by kernel_rfl
theorem okT62:CallOk Tryz.prog (lookT T62):=Ag good mixed okT61 (C0 Gd)
theorem Gm (a:AV)(h:Heap):B0 a h=bodyK Tryz.prog (lookT T62) ann 73 [a] h:=by kernel_rfl
theorem okT63:CallOk Tryz.prog (lookT T63):=Ag good mixed okT62 (C0 Gm)
theorem Gv (a b c d e:AV)(h:Heap):Bv a b c d e h=bodyK Tryz.prog (lookT T63) ann 134 [a,b,c,d,e] h:=by kernel_rfl
theorem okT64:CallOk Tryz.prog (lookT T64):=Ag good mixed okT63 (TM Gv)
theorem Gl (a:AV)(h:Heap):B7 a h=bodyK Tryz.prog (lookT T64) ann 112 [a] h:=by kernel_rfl
theorem okT65:CallOk Tryz.prog (lookT T65):=Ag good mixed okT64 (C0 Gl)
theorem GZ (a:AV)(h:Heap):CU a h=bodyK Tryz.prog (lookT T65) ann 74 [a] h:=by kernel_rfl
theorem okT66:CallOk Tryz.prog (lookT T66):=Ag good mixed okT65 (C0 GZ)
theorem Fx (a:AV)(h:Heap):BM a h=bodyK Tryz.prog (lookT T66) ann 113 [a] h:=by kernel_rfl
theorem okT67:CallOk Tryz.prog (lookT T67):=Ag good mixed okT66 (C0 Fx)
theorem HT (a:AV)(h:Heap):Ct a h=bodyK Tryz.prog (lookT T67) ann 75 [a] h:=by kernel_rfl
theorem okT68:CallOk Tryz.prog (lookT T68):=Ag good mixed okT67 (C0 HT)
theorem G2 (a:AV)(h:Heap):Cg a h=bodyK Tryz.prog (lookT T68) ann 76 [a] h:=by kernel_rfl
theorem okT69:CallOk Tryz.prog (lookT T69):=Ag good mixed okT68 (C0 G2)
theorem Do (a:AV)(h:Heap):Aq a h=bodyK Tryz.prog (lookT T69) ann 135 [a] h:=by kernel_rfl
theorem okT70:CallOk Tryz.prog (lookT T70):=Ag good mixed okT69 (C0 Do)
theorem Ka (a b:AV)(h:Heap):Cn a b h=bodyK Tryz.prog (lookT T70) ann 137 [a,b] h:=by kernel_rfl
theorem okT71:CallOk Tryz.prog (lookT T71):=Ag good mixed okT70 (Cz Ka)
theorem HZ (a b:AV)(h:Heap):Ar a b h=bodyK Tryz.prog (lookT T71) ann 136 [a,b] h:=by kernel_rfl
theorem okT72:CallOk Tryz.prog (lookT T72):=Ag good mixed okT71 (Cz HZ)
theorem Kl (a:AV)(h:Heap):Co a h=bodyK Tryz.prog (lookT T72) ann 148 [a] h:=by kernel_rfl
theorem okT73:CallOk Tryz.prog (lookT T73):=Ag good mixed okT72 (C0 Kl)
theorem KW (a:AV)(h:Heap):Ep a h=bodyK Tryz.prog (lookT T73) ann 147 [a] h:=by kernel_rfl
theorem okT74:CallOk Tryz.prog (lookT T74):=Ag good mixed okT73 (C0 KW)
theorem Hm (a b c:AV)(h:Heap):BD a b c h=bodyK Tryz.prog (lookT T74) ann 149 [a,b,c] h:=by kernel_rfl
theorem okT75:CallOk Tryz.prog (lookT T75):=Ag good mixed okT74 (KY Hm)
theorem Ht (a b:AV)(h:Heap):As a b h=bodyK Tryz.prog (lookT T75) ann 141 [a,b] h:=by kernel_rfl
theorem okT76:CallOk Tryz.prog (lookT T76):=Ag good mixed okT75 (Cz Ht)
theorem Kv (a:AV)(h:Heap):Bt a h=bodyK Tryz.prog (lookT T76) ann 142 [a] h:=by kernel_rfl
theorem okT77:CallOk Tryz.prog (lookT T77):=Ag good mixed okT76 (C0 Kv)
theorem GY (a b c:AV)(h:Heap):A3 a b c h=bodyK Tryz.prog (lookT T77) ann 150 [a,b,c] h:=by kernel_rfl
theorem okT78:CallOk Tryz.prog (lookT T78):=Ag good mixed okT77 (KY GY)
theorem Jm (a:AV)(h:Heap):CB a h=bodyK Tryz.prog (lookT T78) ann 151 [a] h:=by kernel_rfl
theorem okT79:CallOk Tryz.prog (lookT T79):=Ag good mixed okT78 (C0 Jm)
theorem Ib (a b:AV)(h:Heap):Bo a b h=bodyK Tryz.prog (lookT T79) ann 152 [a,b] h:=by kernel_rfl
theorem okT80:CallOk Tryz.prog (lookT T80):=Ag good mixed okT79 (Cz Ib)
theorem JF (a b c:AV)(h:Heap):Eb a b c h=bodyK Tryz.prog (lookT T80) ann 138 [a,b,c] h:=by kernel_rfl
theorem okT81:CallOk Tryz.prog (lookT T81):=Ag good mixed okT80 (KY JF)
theorem KT (a b:AV)(h:Heap):FS a b h=bodyK Tryz.prog (lookT T81) ann 139 [a,b] h:=by kernel_rfl
theorem okT82:CallOk Tryz.prog (lookT T82):=Ag good mixed okT81 (Cz KT)
theorem Dl (a b:AV)(h:Heap):BL a b h=bodyK Tryz.prog (lookT T82) ann 140 [a,b] h:=by kernel_rfl
theorem okT83:CallOk Tryz.prog (lookT T83):=Ag good mixed okT82 (Cz Dl)
theorem J0 (a b:AV)(h:Heap):ED a b h=bodyK Tryz.prog (lookT T83) ann 114 [a,b] h:=by kernel_rfl
theorem okT84:CallOk Tryz.prog (lookT T84):=Ag good mixed okT83 (Cz J0)
theorem Im (a b c:AV)(h:Heap):EA a b c h=bodyK Tryz.prog (lookT T84) ann 115 [a,b,c] h:=by kernel_rfl
theorem okT85:CallOk Tryz.prog (lookT T85):=Ag good mixed okT84 (KY Im)
theorem Gw (a:AV)(h:Heap):BP a h=bodyK Tryz.prog (lookT T85) ann 77 [a] h:=by kernel_rfl
theorem okT86:CallOk Tryz.prog (lookT T86):=Ag good mixed okT85 (C0 Gw)
theorem G1 (a b:AV)(h:Heap):BJ a b h=bodyK Tryz.prog (lookT T86) ann 46 [a,b] h:=by kernel_rfl
theorem okT87:CallOk Tryz.prog (lookT T87):=Ag good mixed okT86 (Cz G1)
theorem IO (a b:AV)(h:Heap):Di a b h=bodyK Tryz.prog (lookT T87) ann 16 [a,b] h:=by kernel_rfl
theorem okT88:CallOk Tryz.prog (lookT T88):=Ag good mixed okT87 (Cz IO)
theorem JM (a:AV)(h:Heap):DG a h=bodyK Tryz.prog (lookT T88) ann 9 [a] h:=by kernel_rfl
theorem okT89:CallOk Tryz.prog (lookT T89):=Ag good mixed okT88 (C0 JM)
theorem Ii (a:AV)(h:Heap):Ch a h=bodyK Tryz.prog (lookT T89) ann 12 [a] h:=by kernel_rfl
theorem okT90:CallOk Tryz.prog (lookT T90):=Ag good mixed okT89 (C0 Ii)
theorem I7 (h:Heap):GO h=bodyK Tryz.prog (lookT T90) ann 7 [] h:=by kernel_rfl
theorem JN:isTrue (GO hQ0)=true:=by kernel_rfl
theorem okT91R:CallOk Tryz.prog (lookT ((7,p0 GO)::T90)):=Ag good mixed okT90 (Sm I7)
theorem okT91:CallOk Tryz.prog (lookT T91):=by
 obtain⟨g,hg⟩:=J8 JN
 exact MS okT90 okT91R (base0 noGlobal) hg rfl
theorem K2 (a:AV)(h:Heap):DI a h=bodyK Tryz.prog (lookT T91) ann 8 [a] h:=by kernel_rfl
theorem okT92:CallOk Tryz.prog (lookT T92):=Ag good mixed okT91 (C0 K2)
theorem J9 (h:Heap):C8 h=bodyK Tryz.prog (lookT T92) ann 23 [] h:=by kernel_rfl
theorem okT93:CallOk Tryz.prog (lookT T93):=Ag good mixed okT92 (Sm J9)
theorem IG (a b:AV)(h:Heap):Ay a b h=bodyK Tryz.prog (lookT T93) ann 37 [a,b] h:=by kernel_rfl
theorem okT94:CallOk Tryz.prog (lookT T94):=Ag good mixed okT93 (Cz IG)
theorem Lm (a:AV)(h:Heap):Fj a h=bodyK Tryz.prog (lookT T94) ann 40 [a] h:=by kernel_rfl
theorem okT95:CallOk Tryz.prog (lookT T95):=Ag good mixed okT94 (C0 Lm)
theorem Hs (a b:AV)(h:Heap):Bl a b h=bodyK Tryz.prog (lookT T95) ann 38 [a,b] h:=by kernel_rfl
theorem okT96:CallOk Tryz.prog (lookT T96):=Ag good mixed okT95 (Cz Hs)
theorem HV (a b:AV)(h:Heap):CW a b h=bodyK Tryz.prog (lookT T96) ann 39 [a,b] h:=by kernel_rfl
theorem okT97:CallOk Tryz.prog (lookT T97):=Ag good mixed okT96 (Cz HV)
theorem IR (a b:AV)(h:Heap):Dj a b h=bodyK Tryz.prog (lookT T97) ann 41 [a,b] h:=by kernel_rfl
theorem okT98:CallOk Tryz.prog (lookT T98):=Ag good mixed okT97 (Cz IR)
theorem Jt (a:AV)(h:Heap):EL a h=bodyK Tryz.prog (lookT T98) ann 14 [a] h:=by kernel_rfl
theorem okT99:CallOk Tryz.prog (lookT T99):=Ag good mixed okT98 (C0 Jt)
theorem Ft (a b:AV)(h:Heap):CF a b h=bodyK Tryz.prog (lookT T99) ann 22 [a,b] h:=by kernel_rfl
theorem okT100:CallOk Tryz.prog (lookT T100):=Ag good mixed okT99 (Cz Ft)
theorem Gg (a b:AV)(h:Heap):CR a b h=bodyK Tryz.prog (lookT T100) ann 24 [a,b] h:=by kernel_rfl
theorem okT101:CallOk Tryz.prog (lookT T101):=Ag good mixed okT100 (Cz Gg)
theorem H9 (a b:AV)(h:Heap):DX a b h=bodyK Tryz.prog (lookT T101) ann 30 [a,b] h:=by kernel_rfl
theorem okT102:CallOk Tryz.prog (lookT T102):=Ag good mixed okT101 (Cz H9)
theorem G9 (a b:AV)(h:Heap):Cd a b h=bodyK Tryz.prog (lookT T102) ann 33 [a,b] h:=by kernel_rfl
theorem okT103:CallOk Tryz.prog (lookT T103):=Ag good mixed okT102 (Cz G9)
theorem G8 (a b:AV)(h:Heap):Cf a b h=bodyK Tryz.prog (lookT T103) ann 35 [a,b] h:=by kernel_rfl
theorem okT104:CallOk Tryz.prog (lookT T104):=Ag good mixed okT103 (Cz G8)
theorem Jl (a:AV)(h:Heap):EJ a h=bodyK Tryz.prog (lookT T104) ann 13 [a] h:=by kernel_rfl
theorem okT105:CallOk Tryz.prog (lookT T105):=Ag good mixed okT104 (C0 Jl)
theorem HU (a b c:AV)(h:Heap):CY a b c h=bodyK Tryz.prog (lookT T105) ann 5 [a,b,c] h:=by kernel_rfl
theorem okT106:CallOk Tryz.prog (lookT T106):=Ag good mixed okT105 (KY HU)
noncomputable def tab:Tab:=T106
theorem okTab:CallOk Tryz.prog (lookT tab):=okT106
end Go.Proofs.YtdmgkkcjnmmfmaaGreat.qu