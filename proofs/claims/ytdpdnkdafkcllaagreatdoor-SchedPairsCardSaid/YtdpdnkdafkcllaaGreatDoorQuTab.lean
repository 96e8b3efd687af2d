import Derived.Test.YtdpdnkdafkcllaaGreatDoorQuFn
import Derived.Test.YtdpdnkdafkcllaaGreatDoorBs
import Derived.Test.YtdpdnkdafkcllaaGreatDoorAbV
import Derived.Test.YtdpdnkdafkcllaaGreatDoorAbQ
import Derived.Test.YtdpdnkdafkcllaaGreatDoorLay
namespace Go.Proofs.YtdpdnkdafkcllaaGreatDoor.qu
open Go Go.Ab Go.Ab.F
set_option linter.all false
noncomputable section
def lookD (L:Tab):CallF:=List.rec (motive:=fun _=>CallF) (fun _ _ _=>none) (fun e _ ih f args h=>bif Nat.beq e.1 f then e.2 args h else ih f args h) L
def pD1 (F:AV→Heap→Option (AV × Heap)):Prim | [a],h=>F a h | _,_=>none
def pD2 (F:AV→AV→Heap→Option (AV × Heap)):Prim | [a,b],h=>F a b h | _,_=>none
def pD3 (F:AV→AV→AV→Heap→Option (AV × Heap)):Prim | [a,b,c],h=>F a b c h | _,_=>none
def TD0:Tab:=[]
def TD1:Tab:=(160,pD1 Bq)::TD0
def TD2:Tab:=(123,pD2 B2)::TD1
def TD3:Tab:=(159,pD2 Bv)::TD2
def TD4:Tab:=(17,pD2 A0)::TD3
def TD5:Tab:=(158,pD1 BW)::TD4
def TD6:Tab:=(53,pD1 Ah)::TD5
def TD7:Tab:=(27,pD2 Av)::TD6
def TD8:Tab:=(73,pD2 Ay)::TD7
def TD9:Tab:=(50,pD1 AM)::TD8
def TD10:Tab:=(120,pD1 BG)::TD9
def TD11:Tab:=(114,pD2 Ae)::TD10
def TD12:Tab:=(83,pD2 AA)::TD11
def TD13:Tab:=(100,pD1 AG)::TD12
def TD14:Tab:=(121,pD2 BB)::TD13
def TD15:Tab:=(89,pD2 AQ)::TD14
def TD16:Tab:=(72,pD3 AH)::TD15
def TD17:Tab:=(56,pD3 AJ)::TD16
def TD18:Tab:=(98,pD2 As)::TD17
def TD19:Tab:=(99,pD1 A1)::TD18
def TD20:Tab:=(102,pD3 Ao)::TD19
def TD21:Tab:=(70,pD1 A5)::TD20
def TD22:Tab:=(76,pD1 BL)::TD21
def TD23:Tab:=(21,pD1 AE)::TD22
def TD24:Tab:=(77,pD2 AO)::TD23
def TD25:Tab:=(57,pD2 BS)::TD24
def TD26:Tab:=(34,pD2 BQ)::TD25
def TD27:Tab:=(74,pD3 Bs)::TD26
def TD28:Tab:=(129,pD1 AK)::TD27
def TD29:Tab:=(101,pD1 CB)::TD28
def TD30:Tab:=(75,pD1 Az)::TD29
end
theorem tdeq25:lookT T25=lookD TD25:=by kernel_rfl
theorem tdeq26:lookT T26=lookD TD26:=by kernel_rfl
theorem tdeq30:lookT T30=lookD TD30:=by kernel_rfl
theorem okT0:CallOk Tryz.prog (lookT T0):=lookT_nil
theorem C5 (a:AV)(h:Heap):Bq a h=bodyK Tryz.prog (lookT T0) ann 160 [a] h:=by kernel_rfl
theorem okT1:CallOk Tryz.prog (lookT T1):=lookT_cons good mixed okT0 (of_p1 C5)
theorem DW (a b:AV)(h:Heap):B2 a b h=bodyK Tryz.prog (lookT T1) ann 123 [a,b] h:=by kernel_rfl
theorem okT2:CallOk Tryz.prog (lookT T2):=lookT_cons good mixed okT1 (of_p2 DW)
theorem DL (a b:AV)(h:Heap):Bv a b h=bodyK Tryz.prog (lookT T2) ann 159 [a,b] h:=by kernel_rfl
theorem okT3:CallOk Tryz.prog (lookT T3):=lookT_cons good mixed okT2 (of_p2 DL)
theorem Dm (a b:AV)(h:Heap):A0 a b h=bodyK Tryz.prog (lookT T3) ann 17 [a,b] h:=by kernel_rfl
theorem okT4:CallOk Tryz.prog (lookT T4):=lookT_cons good mixed okT3 (of_p2 Dm)
theorem Cp (a:AV)(h:Heap):BW a h=bodyK Tryz.prog (lookT T4) ann 158 [a] h:=by kernel_rfl
theorem okT5:CallOk Tryz.prog (lookT T5):=lookT_cons good mixed okT4 (of_p1 Cp)
theorem EL (a:AV)(h:Heap):Ah a h=bodyK Tryz.prog (lookT T5) ann 53 [a] h:=by kernel_rfl
theorem okT6:CallOk Tryz.prog (lookT T6):=lookT_cons good mixed okT5 (of_p1 EL)
theorem ES (a b:AV)(h:Heap):Av a b h=bodyK Tryz.prog (lookT T6) ann 27 [a,b] h:=by kernel_rfl
theorem okT7:CallOk Tryz.prog (lookT T7):=lookT_cons good mixed okT6 (of_p2 ES)
theorem EJ (a b:AV)(h:Heap):Ay a b h=bodyK Tryz.prog (lookT T7) ann 73 [a,b] h:=by kernel_rfl
theorem okT8:CallOk Tryz.prog (lookT T8):=lookT_cons good mixed okT7 (of_p2 EJ)
theorem Do (a:AV)(h:Heap):AM a h=bodyK Tryz.prog (lookT T8) ann 50 [a] h:=by kernel_rfl
theorem okT9:CallOk Tryz.prog (lookT T9):=lookT_cons good mixed okT8 (of_p1 Do)
theorem Ey (a:AV)(h:Heap):BG a h=bodyK Tryz.prog (lookT T9) ann 120 [a] h:=by kernel_rfl
theorem okT10:CallOk Tryz.prog (lookT T10):=lookT_cons good mixed okT9 (of_p1 Ey)
theorem EI (a b:AV)(h:Heap):Ae a b h=bodyK Tryz.prog (lookT T10) ann 114 [a,b] h:=by kernel_rfl
theorem okT11:CallOk Tryz.prog (lookT T11):=lookT_cons good mixed okT10 (of_p2 EI)
theorem DX (a b:AV)(h:Heap):AA a b h=bodyK Tryz.prog (lookT T11) ann 83 [a,b] h:=by kernel_rfl
theorem okT12:CallOk Tryz.prog (lookT T12):=lookT_cons good mixed okT11 (of_p2 DX)
theorem Ef (a:AV)(h:Heap):AG a h=bodyK Tryz.prog (lookT T12) ann 100 [a] h:=by kernel_rfl
theorem okT13:CallOk Tryz.prog (lookT T13):=lookT_cons good mixed okT12 (of_p1 Ef)
theorem Ej (a b:AV)(h:Heap):BB a b h=bodyK Tryz.prog (lookT T13) ann 121 [a,b] h:=by kernel_rfl
theorem okT14:CallOk Tryz.prog (lookT T14):=lookT_cons good mixed okT13 (of_p2 Ej)
theorem D2 (a b:AV)(h:Heap):AQ a b h=bodyK Tryz.prog (lookT T14) ann 89 [a,b] h:=by kernel_rfl
theorem okT15:CallOk Tryz.prog (lookT T15):=lookT_cons good mixed okT14 (of_p2 D2)
theorem EC (a b c:AV)(h:Heap):AH a b c h=bodyK Tryz.prog (lookT T15) ann 72 [a,b,c] h:=by kernel_rfl
theorem okT16:CallOk Tryz.prog (lookT T16):=lookT_cons good mixed okT15 (of_p3 EC)
theorem EB (a b c:AV)(h:Heap):AJ a b c h=bodyK Tryz.prog (lookT T16) ann 56 [a,b,c] h:=by kernel_rfl
theorem okT17:CallOk Tryz.prog (lookT T17):=lookT_cons good mixed okT16 (of_p3 EB)
theorem Ea (a b:AV)(h:Heap):As a b h=bodyK Tryz.prog (lookT T17) ann 98 [a,b] h:=by kernel_rfl
theorem okT18:CallOk Tryz.prog (lookT T18):=lookT_cons good mixed okT17 (of_p2 Ea)
theorem E1 (a:AV)(h:Heap):A1 a h=bodyK Tryz.prog (lookT T18) ann 99 [a] h:=by kernel_rfl
theorem okT19:CallOk Tryz.prog (lookT T19):=lookT_cons good mixed okT18 (of_p1 E1)
theorem Em (a b c:AV)(h:Heap):Ao a b c h=bodyK Tryz.prog (lookT T19) ann 102 [a,b,c] h:=by kernel_rfl
theorem okT20:CallOk Tryz.prog (lookT T20):=lookT_cons good mixed okT19 (of_p3 Em)
theorem E9 (a:AV)(h:Heap):A5 a h=bodyK Tryz.prog (lookT T20) ann 70 [a] h:=by kernel_rfl
theorem okT21:CallOk Tryz.prog (lookT T21):=lookT_cons good mixed okT20 (of_p1 E9)
theorem Eb (a:AV)(h:Heap):BL a h=bodyK Tryz.prog (lookT T21) ann 76 [a] h:=by kernel_rfl
theorem okT22:CallOk Tryz.prog (lookT T22):=lookT_cons good mixed okT21 (of_p1 Eb)
theorem Dd (a:AV)(h:Heap):AE a h=bodyK Tryz.prog (lookT T22) ann 21 [a] h:=by kernel_rfl
theorem okT23:CallOk Tryz.prog (lookT T23):=lookT_cons good mixed okT22 (of_p1 Dd)
theorem Du (a b:AV)(h:Heap):AO a b h=bodyK Tryz.prog (lookT T23) ann 77 [a,b] h:=by kernel_rfl
theorem okT24:CallOk Tryz.prog (lookT T24):=lookT_cons good mixed okT23 (of_p2 Du)
theorem EW (a b:AV)(h:Heap):BS a b h=bodyK Tryz.prog (lookT T24) ann 57 [a,b] h:=by kernel_rfl
theorem okT25:CallOk Tryz.prog (lookT T25):=lookT_cons good mixed okT24 (of_p2 EW)
theorem eqv_k_chans_is (a b:AV)(h:Heap):BQ a b h=V.bodyK Tryz.prog (lookD TD25) ann 34 [a,b] h:=by kernel_rfl
theorem FC (a b:AV)(h:Heap):BQ a b h=bodyK Tryz.prog (lookT T25) ann 34 [a,b] h:=by rw [← V.bodyK_eqv,tdeq25];exact eqv_k_chans_is a b h
theorem okT26:CallOk Tryz.prog (lookT T26):=lookT_cons good mixed okT25 (of_p2 FC)
theorem eqv_k_chans_Is (a b c:AV)(h:Heap):Bs a b c h=V.bodyK Tryz.prog (lookD TD26) ann 74 [a,b,c] h:=by kernel_rfl
theorem FB (a b c:AV)(h:Heap):Bs a b c h=bodyK Tryz.prog (lookT T26) ann 74 [a,b,c] h:=by rw [← V.bodyK_eqv,tdeq26];exact eqv_k_chans_Is a b c h
theorem okT27:CallOk Tryz.prog (lookT T27):=lookT_cons good mixed okT26 (of_p3 FB)
theorem Cd (a:AV)(h:Heap):AK a h=bodyK Tryz.prog (lookT T27) ann 129 [a] h:=by kernel_rfl
theorem okT28:CallOk Tryz.prog (lookT T28):=lookT_cons good mixed okT27 (of_p1 Cd)
theorem Ec (a:AV)(h:Heap):CB a h=bodyK Tryz.prog (lookT T28) ann 101 [a] h:=by kernel_rfl
theorem okT29:CallOk Tryz.prog (lookT T29):=lookT_cons good mixed okT28 (of_p1 Ec)
theorem EM (a:AV)(h:Heap):Az a h=bodyK Tryz.prog (lookT T29) ann 75 [a] h:=by kernel_rfl
theorem okT30:CallOk Tryz.prog (lookT T30):=lookT_cons good mixed okT29 (of_p1 EM)
theorem eqv_k_sched_Table_offered (a b c d e f g:AV)(h:Heap):AD a b c d e f g h=V.bodyK Tryz.prog (lookD TD30) ann 54 [a,b,c,d,e,f,g] h:=by kernel_rfl
theorem C6 (a b c d e f g:AV)(h:Heap):AD a b c d e f g h=bodyK Tryz.prog (lookT T30) ann 54 [a,b,c,d,e,f,g] h:=by rw [← V.bodyK_eqv,tdeq30];exact eqv_k_sched_Table_offered a b c d e f g h
theorem okT31:CallOk Tryz.prog (lookT T31):=lookT_cons good mixed okT30 (of_p7 C6)
theorem DC (a b c d:AV)(h:Heap):AB a b c d h=bodyK Tryz.prog (lookT T31) ann 28 [a,b,c,d] h:=by kernel_rfl
theorem okT32:CallOk Tryz.prog (lookT T32):=lookT_cons good mixed okT31 (of_p4 DC)
theorem EF (a:AV)(h:Heap):Ax a h=bodyK Tryz.prog (lookT T32) ann 35 [a] h:=by kernel_rfl
theorem okT33:CallOk Tryz.prog (lookT T33):=lookT_cons good mixed okT32 (of_p1 EF)
theorem Et (a b c:AV)(h:Heap):Bz a b c h=bodyK Tryz.prog (lookT T33) ann 33 [a,b,c] h:=by kernel_rfl
theorem okT34:CallOk Tryz.prog (lookT T34):=lookT_cons good mixed okT33 (of_p3 Et)
theorem EU (a b:AV)(h:Heap):Bw a b h=bodyK Tryz.prog (lookT T34) ann 30 [a,b] h:=by kernel_rfl
theorem okT35:CallOk Tryz.prog (lookT T35):=lookT_cons good mixed okT34 (of_p2 EU)
theorem Ee (a b:AV)(h:Heap):Br a b h=bodyK Tryz.prog (lookT T35) ann 31 [a,b] h:=by kernel_rfl
theorem okT36:CallOk Tryz.prog (lookT T36):=lookT_cons good mixed okT35 (of_p2 Ee)
theorem Eg (a b:AV)(h:Heap):Bd a b h=bodyK Tryz.prog (lookT T36) ann 32 [a,b] h:=by kernel_rfl
theorem okT37:CallOk Tryz.prog (lookT T37):=lookT_cons good mixed okT36 (of_p2 Eg)
theorem okT38:CallOk Tryz.prog (lookT T38):=lookT_keys okT37 keys41Lays (by rfl) (by rfl)
theorem okT39:CallOk Tryz.prog (lookT T39):=lookT_sorted okT38 sorted40Lays keys41Lays sort62Lays (by rfl) (by rfl) (by rfl)
theorem EG (a:AV)(h:Heap):Ar a h=bodyK Tryz.prog (lookT T39) ann 19 [a] h:=by kernel_rfl
theorem okT40:CallOk Tryz.prog (lookT T40):=lookT_cons good mixed okT39 (of_p1 EG)
theorem Cq (a b c d:AV)(h:Heap):AX a b c d h=bodyK Tryz.prog (lookT T40) ann 55 [a,b,c,d] h:=by kernel_rfl
theorem okT41:CallOk Tryz.prog (lookT T41):=lookT_cons good mixed okT40 (of_p4 Cq)
theorem Dt (a b c d:AV)(h:Heap):A8 a b c d h=bodyK Tryz.prog (lookT T41) ann 29 [a,b,c,d] h:=by kernel_rfl
theorem okT42:CallOk Tryz.prog (lookT T42):=lookT_cons good mixed okT41 (of_p4 Dt)
theorem D4 (a b c:AV)(h:Heap):AP a b c h=bodyK Tryz.prog (lookT T42) ann 11 [a,b,c] h:=by kernel_rfl
theorem okT43:CallOk Tryz.prog (lookT T43):=lookT_cons good mixed okT42 (of_p3 D4)
theorem Co (a b c:AV)(h:Heap):CD a b c h=bodyK Tryz.prog (lookT T43) ann 39 [a,b,c] h:=by kernel_rfl
theorem okT44:CallOk Tryz.prog (lookT T44):=lookT_cons good mixed okT43 (of_p3 Co)
set_option maxHeartbeats 4000000 in
theorem EY (h:Heap):Ai h=bodyK Tryz.prog (lookT T44) ann 7 [] h:=by kernel_rfl
theorem okT45:CallOk Tryz.prog (lookT T45):=lookT_cons good mixed okT44 (of_p0 EY)
theorem E0 (a:AV)(h:Heap):Ci a h=bodyK Tryz.prog (lookT T45) ann 42 [a] h:=by kernel_rfl
theorem okT46:CallOk Tryz.prog (lookT T46):=lookT_cons good mixed okT45 (of_p1 E0)
theorem E8 (h:Heap):C3 h=bodyK Tryz.prog (lookT T46) ann 43 [] h:=by kernel_rfl
theorem okT47:CallOk Tryz.prog (lookT T47):=lookT_cons good mixed okT46 (of_p0 E8)
theorem DN (a:AV)(h:Heap):A3 a h=bodyK Tryz.prog (lookT T47) ann 64 [a] h:=by kernel_rfl
theorem okT48:CallOk Tryz.prog (lookT T48):=lookT_cons good mixed okT47 (of_p1 DN)
theorem Eu (a:AV)(h:Heap):Ch a h=bodyK Tryz.prog (lookT T48) ann 44 [a] h:=by kernel_rfl
theorem okT49:CallOk Tryz.prog (lookT T49):=lookT_cons good mixed okT48 (of_p1 Eu)
theorem FD (h:Heap):EE h=bodyK Tryz.prog (lookT T49) ann 65 [] h:=by kernel_rfl
theorem okT50:CallOk Tryz.prog (lookT T50):=lookT_cons good mixed okT49 (of_p0 FD)
theorem E6 (a b:AV)(h:Heap):C8 a b h=bodyK Tryz.prog (lookT T50) ann 45 [a,b] h:=by kernel_rfl
theorem okT51:CallOk Tryz.prog (lookT T51):=lookT_cons good mixed okT50 (of_p2 E6)
theorem Eq (a:AV)(h:Heap):Ck a h=bodyK Tryz.prog (lookT T51) ann 20 [a] h:=by kernel_rfl
theorem okT52:CallOk Tryz.prog (lookT T52):=lookT_cons good mixed okT51 (of_p1 Eq)
theorem E5 (a:AV)(h:Heap):Bi a h=bodyK Tryz.prog (lookT T52) ann 46 [a] h:=by kernel_rfl
theorem okT53:CallOk Tryz.prog (lookT T53):=lookT_cons good mixed okT52 (of_p1 E5)
theorem Dl (a b:AV)(h:Heap):AU a b h=bodyK Tryz.prog (lookT T53) ann 22 [a,b] h:=by kernel_rfl
theorem okT54:CallOk Tryz.prog (lookT T54):=lookT_cons good mixed okT53 (of_p2 Dl)
theorem Bj (a:AV)(h:Heap):AC a h=bodyK Tryz.prog (lookT T54) ann 23 [a] h:=by kernel_rfl
theorem okT55:CallOk Tryz.prog (lookT T55):=lookT_cons good mixed okT54 (of_p1 Bj)
theorem E7 (a b:AV)(h:Heap):CM a b h=bodyK Tryz.prog (lookT T55) ann 6 [a,b] h:=by kernel_rfl
theorem okT56:CallOk Tryz.prog (lookT T56):=lookT_cons good mixed okT55 (of_p2 E7)
theorem Ev (a:AV)(h:Heap):B3 a h=bodyK Tryz.prog (lookT T56) ann 9 [a] h:=by kernel_rfl
theorem okT57:CallOk Tryz.prog (lookT T57):=lookT_cons good mixed okT56 (of_p1 Ev)
theorem Ep (a:AV)(h:Heap):CT a h=bodyK Tryz.prog (lookT T57) ann 82 [a] h:=by kernel_rfl
theorem okT58:CallOk Tryz.prog (lookT T58):=lookT_cons good mixed okT57 (of_p1 Ep)
theorem Df (a:AV)(h:Heap):A2 a h=bodyK Tryz.prog (lookT T58) ann 139 [a] h:=by kernel_rfl
theorem okT59:CallOk Tryz.prog (lookT T59):=lookT_cons good mixed okT58 (of_p1 Df)
theorem E3 (a:AV)(h:Heap):CN a h=bodyK Tryz.prog (lookT T59) ann 128 [a] h:=by kernel_rfl
theorem okT60:CallOk Tryz.prog (lookT T60):=lookT_cons good mixed okT59 (of_p1 E3)
theorem DP (a b:AV)(h:Heap):AZ a b h=bodyK Tryz.prog (lookT T60) ann 115 [a,b] h:=by kernel_rfl
theorem okT61:CallOk Tryz.prog (lookT T61):=lookT_cons good mixed okT60 (of_p2 DP)
theorem DS (a b:AV)(h:Heap):Aa a b h=bodyK Tryz.prog (lookT T61) ann 84 [a,b] h:=by kernel_rfl
theorem okT62:CallOk Tryz.prog (lookT T62):=lookT_cons good mixed okT61 (of_p2 DS)
theorem Dg (a b:AV)(h:Heap):Ac a b h=bodyK Tryz.prog (lookT T62) ann 85 [a,b] h:=by kernel_rfl
theorem okT63:CallOk Tryz.prog (lookT T63):=lookT_cons good mixed okT62 (of_p2 Dg)
theorem Ed (a:AV)(h:Heap):BO a h=bodyK Tryz.prog (lookT T63) ann 116 [a] h:=by kernel_rfl
theorem okT64:CallOk Tryz.prog (lookT T64):=lookT_cons good mixed okT63 (of_p1 Ed)
theorem Ez (a b c d:AV)(h:Heap):BJ a b c d h=bodyK Tryz.prog (lookT T64) ann 71 [a,b,c,d] h:=by kernel_rfl
theorem okT65:CallOk Tryz.prog (lookT T65):=lookT_cons good mixed okT64 (of_p4 Ez)
theorem E4 (a:AV)(h:Heap):DK a h=bodyK Tryz.prog (lookT T65) ann 86 [a] h:=by kernel_rfl
theorem okT66:CallOk Tryz.prog (lookT T66):=lookT_cons good mixed okT65 (of_p1 E4)
theorem Cn (a:AV)(h:Heap):AL a h=bodyK Tryz.prog (lookT T66) ann 136 [a] h:=by kernel_rfl
theorem okT67:CallOk Tryz.prog (lookT T67):=lookT_cons good mixed okT66 (of_p1 Cn)
theorem Eh (a:AV)(h:Heap):CW a h=bodyK Tryz.prog (lookT T67) ann 117 [a] h:=by kernel_rfl
theorem okT68:CallOk Tryz.prog (lookT T68):=lookT_cons good mixed okT67 (of_p1 Eh)
theorem E2 (a b c:AV)(h:Heap):Cj a b c h=bodyK Tryz.prog (lookT T68) ann 118 [a,b,c] h:=by kernel_rfl
theorem okT69:CallOk Tryz.prog (lookT T69):=lookT_cons good mixed okT68 (of_p3 E2)
theorem Dx (a b:AV)(h:Heap):AW a b h=bodyK Tryz.prog (lookT T69) ann 87 [a,b] h:=by kernel_rfl
theorem okT70:CallOk Tryz.prog (lookT T70):=lookT_cons good mixed okT69 (of_p2 Dx)
theorem EH (a b c:AV)(h:Heap):Af a b c h=bodyK Tryz.prog (lookT T70) ann 119 [a,b,c] h:=by kernel_rfl
theorem okT71:CallOk Tryz.prog (lookT T71):=lookT_cons good mixed okT70 (of_p3 EH)
theorem DM (a b c:AV)(h:Heap):Ap a b c h=bodyK Tryz.prog (lookT T71) ann 88 [a,b,c] h:=by kernel_rfl
theorem okT72:CallOk Tryz.prog (lookT T72):=lookT_cons good mixed okT71 (of_p3 DM)
theorem D7 (a b:AV)(h:Heap):A9 a b h=bodyK Tryz.prog (lookT T72) ann 66 [a,b] h:=by kernel_rfl
theorem okT73:CallOk Tryz.prog (lookT T73):=lookT_cons good mixed okT72 (of_p2 D7)
theorem DB (a:AV)(h:Heap):An a h=bodyK Tryz.prog (lookT T73) ann 58 [a] h:=by kernel_rfl
theorem okT74:CallOk Tryz.prog (lookT T74):=lookT_cons good mixed okT73 (of_p1 DB)
theorem EA (a b:AV)(h:Heap):Bb a b h=bodyK Tryz.prog (lookT T74) ann 67 [a,b] h:=by kernel_rfl
theorem okT75:CallOk Tryz.prog (lookT T75):=lookT_cons good mixed okT74 (of_p2 EA)
theorem D9 (a b:AV)(h:Heap):BA a b h=bodyK Tryz.prog (lookT T75) ann 47 [a,b] h:=by kernel_rfl
theorem okT76:CallOk Tryz.prog (lookT T76):=lookT_cons good mixed okT75 (of_p2 D9)
theorem Cy (a:AV)(h:Heap):BZ a h=bodyK Tryz.prog (lookT T76) ann 122 [a] h:=by kernel_rfl
theorem okT77:CallOk Tryz.prog (lookT T77):=lookT_cons good mixed okT76 (of_p1 Cy)
theorem Cc (a b:AV)(h:Heap):A4 a b h=bodyK Tryz.prog (lookT T77) ann 60 [a,b] h:=by kernel_rfl
theorem okT78:CallOk Tryz.prog (lookT T78):=lookT_cons good mixed okT77 (of_p2 Cc)
theorem CO (a b:AV)(h:Heap):Ak a b h=bodyK Tryz.prog (lookT T78) ann 38 [a,b] h:=by kernel_rfl
theorem okT79:CallOk Tryz.prog (lookT T79):=lookT_cons good mixed okT78 (of_p2 CO)
theorem DD (a:AV)(h:Heap):Bt a h=bodyK Tryz.prog (lookT T79) ann 124 [a] h:=by kernel_rfl
theorem okT80:CallOk Tryz.prog (lookT T80):=lookT_cons good mixed okT79 (of_p1 DD)
theorem Dv (a b:AV)(h:Heap):Bc a b h=bodyK Tryz.prog (lookT T80) ann 90 [a,b] h:=by kernel_rfl
theorem okT81:CallOk Tryz.prog (lookT T81):=lookT_cons good mixed okT80 (of_p2 Dv)
theorem Cu (a b:AV)(h:Heap):BU a b h=bodyK Tryz.prog (lookT T81) ann 137 [a,b] h:=by kernel_rfl
theorem okT82:CallOk Tryz.prog (lookT T82):=lookT_cons good mixed okT81 (of_p2 Cu)
theorem Cf (a b:AV)(h:Heap):BH a b h=bodyK Tryz.prog (lookT T82) ann 125 [a,b] h:=by kernel_rfl
theorem okT83:CallOk Tryz.prog (lookT T83):=lookT_cons good mixed okT82 (of_p2 Cf)
theorem EQ (a b:AV)(h:Heap):Cb a b h=bodyK Tryz.prog (lookT T83) ann 78 [a,b] h:=by kernel_rfl
theorem okT84:CallOk Tryz.prog (lookT T84):=lookT_cons good mixed okT83 (of_p2 EQ)
theorem DQ (a b:AV)(h:Heap):BN a b h=bodyK Tryz.prog (lookT T84) ann 59 [a,b] h:=by kernel_rfl
theorem okT85:CallOk Tryz.prog (lookT T85):=lookT_cons good mixed okT84 (of_p2 DQ)
theorem DU (a b:AV)(h:Heap):BM a b h=bodyK Tryz.prog (lookT T85) ann 97 [a,b] h:=by kernel_rfl
theorem okT86:CallOk Tryz.prog (lookT T86):=lookT_cons good mixed okT85 (of_p2 DU)
theorem D0 (a b c:AV)(h:Heap):CH a b c h=bodyK Tryz.prog (lookT T86) ann 91 [a,b,c] h:=by kernel_rfl
theorem okT87:CallOk Tryz.prog (lookT T87):=lookT_cons good mixed okT86 (of_p3 D0)
theorem EK (a:AV)(h:Heap):CL a h=bodyK Tryz.prog (lookT T87) ann 126 [a] h:=by kernel_rfl
theorem okT88:CallOk Tryz.prog (lookT T88):=lookT_cons good mixed okT87 (of_p1 EK)
theorem Ds (a b c:AV)(h:Heap):CF a b c h=bodyK Tryz.prog (lookT T88) ann 138 [a,b,c] h:=by kernel_rfl
theorem okT89:CallOk Tryz.prog (lookT T89):=lookT_cons good mixed okT88 (of_p3 Ds)
theorem DA (a b:AV)(h:Heap):Bu a b h=bodyK Tryz.prog (lookT T89) ann 127 [a,b] h:=by kernel_rfl
theorem okT90:CallOk Tryz.prog (lookT T90):=lookT_cons good mixed okT89 (of_p2 DA)
theorem ED (a:AV)(h:Heap):CC a h=bodyK Tryz.prog (lookT T90) ann 92 [a] h:=by kernel_rfl
theorem okT91:CallOk Tryz.prog (lookT T91):=lookT_cons good mixed okT90 (of_p1 ED)
theorem DT (a:AV)(h:Heap):B0 a h=bodyK Tryz.prog (lookT T91) ann 93 [a] h:=by kernel_rfl
theorem okT92:CallOk Tryz.prog (lookT T92):=lookT_cons good mixed okT91 (of_p1 DT)
theorem C2 (a:AV)(h:Heap):BV a h=bodyK Tryz.prog (lookT T92) ann 94 [a] h:=by kernel_rfl
theorem okT93:CallOk Tryz.prog (lookT T93):=lookT_cons good mixed okT92 (of_p1 C2)
theorem Dw (a:AV)(h:Heap):CE a h=bodyK Tryz.prog (lookT T93) ann 95 [a] h:=by kernel_rfl
theorem okT94:CallOk Tryz.prog (lookT T94):=lookT_cons good mixed okT93 (of_p1 Dw)
theorem Dz (a b:AV)(h:Heap):Ba a b h=bodyK Tryz.prog (lookT T94) ann 68 [a,b] h:=by kernel_rfl
theorem okT95:CallOk Tryz.prog (lookT T95):=lookT_cons good mixed okT94 (of_p2 Dz)
theorem DZ (a:AV)(h:Heap):B6 a h=bodyK Tryz.prog (lookT T95) ann 96 [a] h:=by kernel_rfl
theorem okT96:CallOk Tryz.prog (lookT T96):=lookT_cons good mixed okT95 (of_p1 DZ)
theorem DV (a b:AV)(h:Heap):B9 a b h=bodyK Tryz.prog (lookT T96) ann 69 [a,b] h:=by kernel_rfl
theorem okT97:CallOk Tryz.prog (lookT T97):=lookT_cons good mixed okT96 (of_p2 DV)
theorem Dc (a b:AV)(h:Heap):B5 a b h=bodyK Tryz.prog (lookT T97) ann 48 [a,b] h:=by kernel_rfl
theorem okT98:CallOk Tryz.prog (lookT T98):=lookT_cons good mixed okT97 (of_p2 Dc)
theorem Ew (a:AV)(h:Heap):Cm a h=bodyK Tryz.prog (lookT T98) ann 49 [a] h:=by kernel_rfl
theorem okT99:CallOk Tryz.prog (lookT T99):=lookT_cons good mixed okT98 (of_p1 Ew)
theorem Db (a b c d:AV)(h:Heap):Ad a b c d h=bodyK Tryz.prog (lookT T99) ann 51 [a,b,c,d] h:=by kernel_rfl
theorem okT100:CallOk Tryz.prog (lookT T100):=lookT_cons good mixed okT99 (of_p4 Db)
theorem EP (a b c d:AV)(h:Heap):BP a b c d h=bodyK Tryz.prog (lookT T100) ann 24 [a,b,c,d] h:=by kernel_rfl
theorem okT101:CallOk Tryz.prog (lookT T101):=lookT_cons good mixed okT100 (of_p4 EP)
theorem Es (a b c d:AV)(h:Heap):Cl a b c d h=bodyK Tryz.prog (lookT T101) ann 25 [a,b,c,d] h:=by kernel_rfl
theorem okT102:CallOk Tryz.prog (lookT T102):=lookT_cons good mixed okT101 (of_p4 Es)
theorem Ek (a b c d:AV)(h:Heap):CA a b c d h=bodyK Tryz.prog (lookT T102) ann 8 [a,b,c,d] h:=by kernel_rfl
theorem okT103:CallOk Tryz.prog (lookT T103):=lookT_cons good mixed okT102 (of_p4 Ek)
theorem EZ (a b c:AV)(h:Heap):CG a b c h=bodyK Tryz.prog (lookT T103) ann 52 [a,b,c] h:=by kernel_rfl
theorem okT104:CallOk Tryz.prog (lookT T104):=lookT_cons good mixed okT103 (of_p3 EZ)
theorem Er (a b c:AV)(h:Heap):Cg a b c h=bodyK Tryz.prog (lookT T104) ann 26 [a,b,c] h:=by kernel_rfl
theorem okT105:CallOk Tryz.prog (lookT T105):=lookT_cons good mixed okT104 (of_p3 Er)
theorem EN (a b c:AV)(h:Heap):Aq a b c h=bodyK Tryz.prog (lookT T105) ann 10 [a,b,c] h:=by kernel_rfl
theorem okT106:CallOk Tryz.prog (lookT T106):=lookT_cons good mixed okT105 (of_p3 EN)
theorem C4 (a b:AV)(h:Heap):BD a b h=bodyK Tryz.prog (lookT T106) ann 16 [a,b] h:=by kernel_rfl
theorem okT107:CallOk Tryz.prog (lookT T107):=lookT_cons good mixed okT106 (of_p2 C4)
theorem Dq (a b:AV)(h:Heap):CJ a b h=bodyK Tryz.prog (lookT T107) ann 18 [a,b] h:=by kernel_rfl
theorem okT108:CallOk Tryz.prog (lookT T108):=lookT_cons good mixed okT107 (of_p2 Dq)
theorem Ei (a b:AV)(h:Heap):D8 a b h=bodyK Tryz.prog (lookT T108) ann 15 [a,b] h:=by kernel_rfl
theorem okT109:CallOk Tryz.prog (lookT T109):=lookT_cons good mixed okT108 (of_p2 Ei)
theorem EV (h:Heap):Cr h=bodyK Tryz.prog (lookT T109) ann 5 [] h:=by kernel_rfl
theorem EX:isTrue (Cr hQ1)=true:=by kernel_rfl
theorem okT110R:CallOk Tryz.prog (lookT ((5,p0 Cr)::T109)):=lookT_cons good mixed okT109 (of_p0 EV)
theorem okT110:CallOk Tryz.prog (lookT T110):=by
 obtain⟨g,hg⟩:=isTrue_some EX
 exact lookT_quiet0 okT109 okT110R (base1 oneGlobal) hg rfl
theorem D3 (a:AV)(h:Heap):Am a h=bodyK Tryz.prog (lookT T110) ann 3 [a] h:=by kernel_rfl
theorem okT111:CallOk Tryz.prog (lookT T111):=lookT_cons good mixed okT110 (of_p1 D3)
noncomputable def tab:Tab:=T111
theorem okTab:CallOk Tryz.prog (lookT tab):=okT111
end Go.Proofs.YtdpdnkdafkcllaaGreatDoor.qu