import Derived.Test.YtdpdnkdafkcllaaGreatDoorQuFn
import Derived.Test.YtdpdnkdafkcllaaGreatDoorBs
import Derived.Test.YtdpdnkdafkcllaaGreatDoorAbV
import Derived.Test.YtdpdnkdafkcllaaGreatDoorAbQ
import Derived.Test.YtdpdnkdafkcllaaGreatDoorLay
namespace Go.Proofs.YtdpdnkdafkcllaaGreatDoor.qu
open Go Go.Ab Go.Ab.F
set_option linter.all false
noncomputable section
def lookD (L:Tab):CallF:=List.rec (motive:=fun _=>CallF) (fun _ _ _=>none) (fun e _ ih f args h=>bif Nat.beq e.1 f then e.2 args h else ih f args h) L
def pD1 (F:AV→Heap→Option (AV × Heap)):Prim | [a],h=>F a h | _,_=>none
def pD2 (F:AV→AV→Heap→Option (AV × Heap)):Prim | [a,b],h=>F a b h | _,_=>none
def pD3 (F:AV→AV→AV→Heap→Option (AV × Heap)):Prim | [a,b,c],h=>F a b c h | _,_=>none
def TD0:Tab:=[]
def TD1:Tab:=(160,pD1 B0)::TD0
def TD2:Tab:=(123,pD2 CM)::TD1
def TD3:Tab:=(159,pD2 CE)::TD2
def TD4:Tab:=(17,pD2 BC)::TD3
def TD5:Tab:=(158,pD1 Bp)::TD4
def TD6:Tab:=(53,pD1 Am)::TD5
def TD7:Tab:=(27,pD2 A4)::TD6
def TD8:Tab:=(73,pD2 BA)::TD7
def TD9:Tab:=(50,pD1 AQ)::TD8
def TD10:Tab:=(120,pD1 BS)::TD9
def TD11:Tab:=(114,pD2 Al)::TD10
def TD12:Tab:=(83,pD2 AA)::TD11
def TD13:Tab:=(100,pD1 AH)::TD12
def TD14:Tab:=(121,pD2 BQ)::TD13
def TD15:Tab:=(89,pD2 AW)::TD14
def TD16:Tab:=(72,pD3 AL)::TD15
def TD17:Tab:=(56,pD3 AK)::TD16
def TD18:Tab:=(98,pD2 Az)::TD17
def TD19:Tab:=(99,pD1 BF)::TD18
def TD20:Tab:=(102,pD3 Au)::TD19
def TD21:Tab:=(70,pD1 BH)::TD20
def TD22:Tab:=(76,pD1 Bg)::TD21
def TD23:Tab:=(21,pD1 AG)::TD22
def TD24:Tab:=(77,pD2 AU)::TD23
def TD25:Tab:=(57,pD2 Bo)::TD24
def TD26:Tab:=(34,pD2 Bb)::TD25
def TD27:Tab:=(74,pD3 B9)::TD26
def TD28:Tab:=(129,pD1 AO)::TD27
def TD29:Tab:=(101,pD1 CS)::TD28
def TD30:Tab:=(75,pD1 A9)::TD29
end
theorem tdeq25:lookT T25=lookD TD25:=by kernel_rfl
theorem tdeq26:lookT T26=lookD TD26:=by kernel_rfl
theorem tdeq30:lookT T30=lookD TD30:=by kernel_rfl
theorem okT0:CallOk Tryz.prog (lookT T0):=lookT_nil
theorem DS (a:AV)(h:Heap):B0 a h=bodyK Tryz.prog (lookT T0) ann 160 [a] h:=by kernel_rfl
theorem okT1:CallOk Tryz.prog (lookT T1):=lookT_cons good mixed okT0 (of_p1 DS)
theorem D7 (a b:AV)(h:Heap):CM a b h=bodyK Tryz.prog (lookT T1) ann 123 [a,b] h:=by kernel_rfl
theorem okT2:CallOk Tryz.prog (lookT T2):=lookT_cons good mixed okT1 (of_p2 D7)
theorem Dd (a b:AV)(h:Heap):CE a b h=bodyK Tryz.prog (lookT T2) ann 159 [a,b] h:=by kernel_rfl
theorem okT3:CallOk Tryz.prog (lookT T3):=lookT_cons good mixed okT2 (of_p2 Dd)
theorem D5 (a b:AV)(h:Heap):BC a b h=bodyK Tryz.prog (lookT T3) ann 17 [a,b] h:=by kernel_rfl
theorem okT4:CallOk Tryz.prog (lookT T4):=lookT_cons good mixed okT3 (of_p2 D5)
theorem DM (a:AV)(h:Heap):Bp a h=bodyK Tryz.prog (lookT T4) ann 158 [a] h:=by kernel_rfl
theorem okT5:CallOk Tryz.prog (lookT T5):=lookT_cons good mixed okT4 (of_p1 DM)
theorem El (a:AV)(h:Heap):Am a h=bodyK Tryz.prog (lookT T5) ann 53 [a] h:=by kernel_rfl
theorem okT6:CallOk Tryz.prog (lookT T6):=lookT_cons good mixed okT5 (of_p1 El)
theorem Er (a b:AV)(h:Heap):A4 a b h=bodyK Tryz.prog (lookT T6) ann 27 [a,b] h:=by kernel_rfl
theorem okT7:CallOk Tryz.prog (lookT T7):=lookT_cons good mixed okT6 (of_p2 Er)
theorem Ee (a b:AV)(h:Heap):BA a b h=bodyK Tryz.prog (lookT T7) ann 73 [a,b] h:=by kernel_rfl
theorem okT8:CallOk Tryz.prog (lookT T8):=lookT_cons good mixed okT7 (of_p2 Ee)
theorem D2 (a:AV)(h:Heap):AQ a h=bodyK Tryz.prog (lookT T8) ann 50 [a] h:=by kernel_rfl
theorem okT9:CallOk Tryz.prog (lookT T9):=lookT_cons good mixed okT8 (of_p1 D2)
theorem FO (a:AV)(h:Heap):BS a h=bodyK Tryz.prog (lookT T9) ann 120 [a] h:=by kernel_rfl
theorem okT10:CallOk Tryz.prog (lookT T10):=lookT_cons good mixed okT9 (of_p1 FO)
theorem Em (a b:AV)(h:Heap):Al a b h=bodyK Tryz.prog (lookT T10) ann 114 [a,b] h:=by kernel_rfl
theorem okT11:CallOk Tryz.prog (lookT T11):=lookT_cons good mixed okT10 (of_p2 Em)
theorem Dw (a b:AV)(h:Heap):AA a b h=bodyK Tryz.prog (lookT T11) ann 83 [a,b] h:=by kernel_rfl
theorem okT12:CallOk Tryz.prog (lookT T12):=lookT_cons good mixed okT11 (of_p2 Dw)
theorem FC (a:AV)(h:Heap):AH a h=bodyK Tryz.prog (lookT T12) ann 100 [a] h:=by kernel_rfl
theorem okT13:CallOk Tryz.prog (lookT T13):=lookT_cons good mixed okT12 (of_p1 FC)
theorem FB (a b:AV)(h:Heap):BQ a b h=bodyK Tryz.prog (lookT T13) ann 121 [a,b] h:=by kernel_rfl
theorem okT14:CallOk Tryz.prog (lookT T14):=lookT_cons good mixed okT13 (of_p2 FB)
theorem EU (a b:AV)(h:Heap):AW a b h=bodyK Tryz.prog (lookT T14) ann 89 [a,b] h:=by kernel_rfl
theorem okT15:CallOk Tryz.prog (lookT T15):=lookT_cons good mixed okT14 (of_p2 EU)
theorem ES (a b c:AV)(h:Heap):AL a b c h=bodyK Tryz.prog (lookT T15) ann 72 [a,b,c] h:=by kernel_rfl
theorem okT16:CallOk Tryz.prog (lookT T16):=lookT_cons good mixed okT15 (of_p3 ES)
theorem EI (a b c:AV)(h:Heap):AK a b c h=bodyK Tryz.prog (lookT T16) ann 56 [a,b,c] h:=by kernel_rfl
theorem okT17:CallOk Tryz.prog (lookT T17):=lookT_cons good mixed okT16 (of_p3 EI)
theorem E4 (a b:AV)(h:Heap):Az a b h=bodyK Tryz.prog (lookT T17) ann 98 [a,b] h:=by kernel_rfl
theorem okT18:CallOk Tryz.prog (lookT T18):=lookT_cons good mixed okT17 (of_p2 E4)
theorem FN (a:AV)(h:Heap):BF a h=bodyK Tryz.prog (lookT T18) ann 99 [a] h:=by kernel_rfl
theorem okT19:CallOk Tryz.prog (lookT T19):=lookT_cons good mixed okT18 (of_p1 FN)
theorem FE (a b c:AV)(h:Heap):Au a b c h=bodyK Tryz.prog (lookT T19) ann 102 [a,b,c] h:=by kernel_rfl
theorem okT20:CallOk Tryz.prog (lookT T20):=lookT_cons good mixed okT19 (of_p3 FE)
theorem Fb (a:AV)(h:Heap):BH a h=bodyK Tryz.prog (lookT T20) ann 70 [a] h:=by kernel_rfl
theorem okT21:CallOk Tryz.prog (lookT T21):=lookT_cons good mixed okT20 (of_p1 Fb)
theorem E0 (a:AV)(h:Heap):Bg a h=bodyK Tryz.prog (lookT T21) ann 76 [a] h:=by kernel_rfl
theorem okT22:CallOk Tryz.prog (lookT T22):=lookT_cons good mixed okT21 (of_p1 E0)
theorem Dk (a:AV)(h:Heap):AG a h=bodyK Tryz.prog (lookT T22) ann 21 [a] h:=by kernel_rfl
theorem okT23:CallOk Tryz.prog (lookT T23):=lookT_cons good mixed okT22 (of_p1 Dk)
theorem EE (a b:AV)(h:Heap):AU a b h=bodyK Tryz.prog (lookT T23) ann 77 [a,b] h:=by kernel_rfl
theorem okT24:CallOk Tryz.prog (lookT T24):=lookT_cons good mixed okT23 (of_p2 EE)
theorem Ey (a b:AV)(h:Heap):Bo a b h=bodyK Tryz.prog (lookT T24) ann 57 [a,b] h:=by kernel_rfl
theorem okT25:CallOk Tryz.prog (lookT T25):=lookT_cons good mixed okT24 (of_p2 Ey)
theorem eqv_k_chans_is (a b:AV)(h:Heap):Bb a b h=V.bodyK Tryz.prog (lookD TD25) ann 34 [a,b] h:=by kernel_rfl
theorem Fa (a b:AV)(h:Heap):Bb a b h=bodyK Tryz.prog (lookT T25) ann 34 [a,b] h:=by rw [← V.bodyK_eqv,tdeq25];exact eqv_k_chans_is a b h
theorem okT26:CallOk Tryz.prog (lookT T26):=lookT_cons good mixed okT25 (of_p2 Fa)
theorem eqv_k_chans_Is (a b c:AV)(h:Heap):B9 a b c h=V.bodyK Tryz.prog (lookD TD26) ann 74 [a,b,c] h:=by kernel_rfl
theorem Fd (a b c:AV)(h:Heap):B9 a b c h=bodyK Tryz.prog (lookT T26) ann 74 [a,b,c] h:=by rw [← V.bodyK_eqv,tdeq26];exact eqv_k_chans_Is a b c h
theorem okT27:CallOk Tryz.prog (lookT T27):=lookT_cons good mixed okT26 (of_p3 Fd)
theorem Cs (a:AV)(h:Heap):AO a h=bodyK Tryz.prog (lookT T27) ann 129 [a] h:=by kernel_rfl
theorem okT28:CallOk Tryz.prog (lookT T28):=lookT_cons good mixed okT27 (of_p1 Cs)
theorem E1 (a:AV)(h:Heap):CS a h=bodyK Tryz.prog (lookT T28) ann 101 [a] h:=by kernel_rfl
theorem okT29:CallOk Tryz.prog (lookT T29):=lookT_cons good mixed okT28 (of_p1 E1)
theorem Eh (a:AV)(h:Heap):A9 a h=bodyK Tryz.prog (lookT T29) ann 75 [a] h:=by kernel_rfl
theorem okT30:CallOk Tryz.prog (lookT T30):=lookT_cons good mixed okT29 (of_p1 Eh)
theorem eqv_k_sched_Table_offered (a b c d e f g:AV)(h:Heap):AF a b c d e f g h=V.bodyK Tryz.prog (lookD TD30) ann 54 [a,b,c,d,e,f,g] h:=by kernel_rfl
theorem DW (a b c d e f g:AV)(h:Heap):AF a b c d e f g h=bodyK Tryz.prog (lookT T30) ann 54 [a,b,c,d,e,f,g] h:=by rw [← V.bodyK_eqv,tdeq30];exact eqv_k_sched_Table_offered a b c d e f g h
theorem okT31:CallOk Tryz.prog (lookT T31):=lookT_cons good mixed okT30 (of_p7 DW)
theorem Dg (a b c d:AV)(h:Heap):AC a b c d h=bodyK Tryz.prog (lookT T31) ann 28 [a,b,c,d] h:=by kernel_rfl
theorem okT32:CallOk Tryz.prog (lookT T32):=lookT_cons good mixed okT31 (of_p4 Dg)
theorem Ej (a:AV)(h:Heap):Aw a h=bodyK Tryz.prog (lookT T32) ann 35 [a] h:=by kernel_rfl
theorem okT33:CallOk Tryz.prog (lookT T33):=lookT_cons good mixed okT32 (of_p1 Ej)
theorem FL (a b c:AV)(h:Heap):Bf a b c h=bodyK Tryz.prog (lookT T33) ann 33 [a,b,c] h:=by kernel_rfl
theorem okT34:CallOk Tryz.prog (lookT T34):=lookT_cons good mixed okT33 (of_p3 FL)
theorem Ev (a b:AV)(h:Heap):BW a b h=bodyK Tryz.prog (lookT T34) ann 30 [a,b] h:=by kernel_rfl
theorem okT35:CallOk Tryz.prog (lookT T35):=lookT_cons good mixed okT34 (of_p2 Ev)
theorem E6 (a b:AV)(h:Heap):A7 a b h=bodyK Tryz.prog (lookT T35) ann 31 [a,b] h:=by kernel_rfl
theorem okT36:CallOk Tryz.prog (lookT T36):=lookT_cons good mixed okT35 (of_p2 E6)
theorem FH (a b:AV)(h:Heap):BM a b h=bodyK Tryz.prog (lookT T36) ann 32 [a,b] h:=by kernel_rfl
theorem okT37:CallOk Tryz.prog (lookT T37):=lookT_cons good mixed okT36 (of_p2 FH)
theorem okT38:CallOk Tryz.prog (lookT T38):=lookT_keys okT37 keys41Lays (by rfl) (by rfl)
theorem okT39:CallOk Tryz.prog (lookT T39):=lookT_sorted okT38 sorted40Lays keys41Lays sort62Lays (by rfl) (by rfl) (by rfl)
theorem Ef (a:AV)(h:Heap):AY a h=bodyK Tryz.prog (lookT T39) ann 19 [a] h:=by kernel_rfl
theorem okT40:CallOk Tryz.prog (lookT T40):=lookT_cons good mixed okT39 (of_p1 Ef)
theorem DP (a b c d:AV)(h:Heap):Ae a b c d h=bodyK Tryz.prog (lookT T40) ann 55 [a,b,c,d] h:=by kernel_rfl
theorem okT41:CallOk Tryz.prog (lookT T41):=lookT_cons good mixed okT40 (of_p4 DP)
theorem Ea (a b c d:AV)(h:Heap):BL a b c d h=bodyK Tryz.prog (lookT T41) ann 29 [a,b,c,d] h:=by kernel_rfl
theorem okT42:CallOk Tryz.prog (lookT T42):=lookT_cons good mixed okT41 (of_p4 Ea)
theorem EP (a b c:AV)(h:Heap):AB a b c h=bodyK Tryz.prog (lookT T42) ann 11 [a,b,c] h:=by kernel_rfl
theorem okT43:CallOk Tryz.prog (lookT T43):=lookT_cons good mixed okT42 (of_p3 EP)
theorem DB (a b c:AV)(h:Heap):Ar a b c h=bodyK Tryz.prog (lookT T43) ann 39 [a,b,c] h:=by kernel_rfl
theorem okT44:CallOk Tryz.prog (lookT T44):=lookT_cons good mixed okT43 (of_p3 DB)
set_option maxHeartbeats 4000000 in
theorem Eu (h:Heap):Ap h=bodyK Tryz.prog (lookT T44) ann 7 [] h:=by kernel_rfl
theorem okT45:CallOk Tryz.prog (lookT T45):=lookT_cons good mixed okT44 (of_p0 Eu)
theorem FX (a:AV)(h:Heap):C2 a h=bodyK Tryz.prog (lookT T45) ann 42 [a] h:=by kernel_rfl
theorem okT46:CallOk Tryz.prog (lookT T46):=lookT_cons good mixed okT45 (of_p1 FX)
theorem Ff (h:Heap):DT h=bodyK Tryz.prog (lookT T46) ann 43 [] h:=by kernel_rfl
theorem okT47:CallOk Tryz.prog (lookT T47):=lookT_cons good mixed okT46 (of_p0 Ff)
theorem D0 (a:AV)(h:Heap):BG a h=bodyK Tryz.prog (lookT T47) ann 64 [a] h:=by kernel_rfl
theorem okT48:CallOk Tryz.prog (lookT T48):=lookT_cons good mixed okT47 (of_p1 D0)
theorem FQ (a:AV)(h:Heap):DA a h=bodyK Tryz.prog (lookT T48) ann 44 [a] h:=by kernel_rfl
theorem okT49:CallOk Tryz.prog (lookT T49):=lookT_cons good mixed okT48 (of_p1 FQ)
theorem Fe (h:Heap):Ec h=bodyK Tryz.prog (lookT T49) ann 65 [] h:=by kernel_rfl
theorem okT50:CallOk Tryz.prog (lookT T50):=lookT_cons good mixed okT49 (of_p0 Fe)
theorem Fc (a b:AV)(h:Heap):DR a b h=bodyK Tryz.prog (lookT T50) ann 45 [a,b] h:=by kernel_rfl
theorem okT51:CallOk Tryz.prog (lookT T51):=lookT_cons good mixed okT50 (of_p2 Fc)
theorem FY (a:AV)(h:Heap):C6 a h=bodyK Tryz.prog (lookT T51) ann 20 [a] h:=by kernel_rfl
theorem okT52:CallOk Tryz.prog (lookT T52):=lookT_cons good mixed okT51 (of_p1 FY)
theorem FT (a:AV)(h:Heap):B6 a h=bodyK Tryz.prog (lookT T52) ann 46 [a] h:=by kernel_rfl
theorem okT53:CallOk Tryz.prog (lookT T53):=lookT_cons good mixed okT52 (of_p1 FT)
theorem Du (a b:AV)(h:Heap):AX a b h=bodyK Tryz.prog (lookT T53) ann 22 [a,b] h:=by kernel_rfl
theorem okT54:CallOk Tryz.prog (lookT T54):=lookT_cons good mixed okT53 (of_p2 Du)
theorem Bx (a:AV)(h:Heap):AE a h=bodyK Tryz.prog (lookT T54) ann 23 [a] h:=by kernel_rfl
theorem okT55:CallOk Tryz.prog (lookT T55):=lookT_cons good mixed okT54 (of_p1 Bx)
theorem FZ (a b:AV)(h:Heap):Cd a b h=bodyK Tryz.prog (lookT T55) ann 6 [a,b] h:=by kernel_rfl
theorem okT56:CallOk Tryz.prog (lookT T56):=lookT_cons good mixed okT55 (of_p2 FZ)
theorem FS (a:AV)(h:Heap):CQ a h=bodyK Tryz.prog (lookT T56) ann 9 [a] h:=by kernel_rfl
theorem okT57:CallOk Tryz.prog (lookT T57):=lookT_cons good mixed okT56 (of_p1 FS)
theorem FD (a:AV)(h:Heap):Ci a h=bodyK Tryz.prog (lookT T57) ann 82 [a] h:=by kernel_rfl
theorem okT58:CallOk Tryz.prog (lookT T58):=lookT_cons good mixed okT57 (of_p1 FD)
theorem Dx (a:AV)(h:Heap):BB a h=bodyK Tryz.prog (lookT T58) ann 139 [a] h:=by kernel_rfl
theorem okT59:CallOk Tryz.prog (lookT T59):=lookT_cons good mixed okT58 (of_p1 Dx)
theorem FP (a:AV)(h:Heap):Ce a h=bodyK Tryz.prog (lookT T59) ann 128 [a] h:=by kernel_rfl
theorem okT60:CallOk Tryz.prog (lookT T60):=lookT_cons good mixed okT59 (of_p1 FP)
theorem D4 (a b:AV)(h:Heap):Ah a b h=bodyK Tryz.prog (lookT T60) ann 115 [a,b] h:=by kernel_rfl
theorem okT61:CallOk Tryz.prog (lookT T61):=lookT_cons good mixed okT60 (of_p2 D4)
theorem D3 (a b:AV)(h:Heap):Ai a b h=bodyK Tryz.prog (lookT T61) ann 84 [a,b] h:=by kernel_rfl
theorem okT62:CallOk Tryz.prog (lookT T62):=lookT_cons good mixed okT61 (of_p2 D3)
theorem Dv (a b:AV)(h:Heap):Aj a b h=bodyK Tryz.prog (lookT T62) ann 85 [a,b] h:=by kernel_rfl
theorem okT63:CallOk Tryz.prog (lookT T63):=lookT_cons good mixed okT62 (of_p2 Dv)
theorem Ez (a:AV)(h:Heap):Bd a h=bodyK Tryz.prog (lookT T63) ann 116 [a] h:=by kernel_rfl
theorem okT64:CallOk Tryz.prog (lookT T64):=lookT_cons good mixed okT63 (of_p1 Ez)
theorem FJ (a b c d:AV)(h:Heap):Be a b c d h=bodyK Tryz.prog (lookT T64) ann 71 [a,b,c,d] h:=by kernel_rfl
theorem okT65:CallOk Tryz.prog (lookT T65):=lookT_cons good mixed okT64 (of_p4 FJ)
theorem FM (a:AV)(h:Heap):Di a h=bodyK Tryz.prog (lookT T65) ann 86 [a] h:=by kernel_rfl
theorem okT66:CallOk Tryz.prog (lookT T66):=lookT_cons good mixed okT65 (of_p1 FM)
theorem DC (a:AV)(h:Heap):AP a h=bodyK Tryz.prog (lookT T66) ann 136 [a] h:=by kernel_rfl
theorem okT67:CallOk Tryz.prog (lookT T67):=lookT_cons good mixed okT66 (of_p1 DC)
theorem E7 (a:AV)(h:Heap):Ch a h=bodyK Tryz.prog (lookT T67) ann 117 [a] h:=by kernel_rfl
theorem okT68:CallOk Tryz.prog (lookT T68):=lookT_cons good mixed okT67 (of_p1 E7)
theorem FK (a b c:AV)(h:Heap):C5 a b c h=bodyK Tryz.prog (lookT T68) ann 118 [a,b,c] h:=by kernel_rfl
theorem okT69:CallOk Tryz.prog (lookT T69):=lookT_cons good mixed okT68 (of_p3 FK)
theorem ED (a b:AV)(h:Heap):Ad a b h=bodyK Tryz.prog (lookT T69) ann 87 [a,b] h:=by kernel_rfl
theorem okT70:CallOk Tryz.prog (lookT T70):=lookT_cons good mixed okT69 (of_p2 ED)
theorem Ed (a b c:AV)(h:Heap):An a b c h=bodyK Tryz.prog (lookT T70) ann 119 [a,b,c] h:=by kernel_rfl
theorem okT71:CallOk Tryz.prog (lookT T71):=lookT_cons good mixed okT70 (of_p3 Ed)
theorem Ds (a b c:AV)(h:Heap):Av a b c h=bodyK Tryz.prog (lookT T71) ann 88 [a,b,c] h:=by kernel_rfl
theorem okT72:CallOk Tryz.prog (lookT T72):=lookT_cons good mixed okT71 (of_p3 Ds)
theorem EY (a b:AV)(h:Heap):BJ a b h=bodyK Tryz.prog (lookT T72) ann 66 [a,b] h:=by kernel_rfl
theorem okT73:CallOk Tryz.prog (lookT T73):=lookT_cons good mixed okT72 (of_p2 EY)
theorem DX (a:AV)(h:Heap):Aa a h=bodyK Tryz.prog (lookT T73) ann 58 [a] h:=by kernel_rfl
theorem okT74:CallOk Tryz.prog (lookT T74):=lookT_cons good mixed okT73 (of_p1 DX)
theorem EF (a b:AV)(h:Heap):Bu a b h=bodyK Tryz.prog (lookT T74) ann 67 [a,b] h:=by kernel_rfl
theorem okT75:CallOk Tryz.prog (lookT T75):=lookT_cons good mixed okT74 (of_p2 EF)
theorem EL (a b:AV)(h:Heap):BO a b h=bodyK Tryz.prog (lookT T75) ann 47 [a,b] h:=by kernel_rfl
theorem okT76:CallOk Tryz.prog (lookT T76):=lookT_cons good mixed okT75 (of_p2 EL)
theorem DF (a:AV)(h:Heap):Bs a h=bodyK Tryz.prog (lookT T76) ann 122 [a] h:=by kernel_rfl
theorem okT77:CallOk Tryz.prog (lookT T77):=lookT_cons good mixed okT76 (of_p1 DF)
theorem Cv (a b:AV)(h:Heap):AZ a b h=bodyK Tryz.prog (lookT T77) ann 60 [a,b] h:=by kernel_rfl
theorem okT78:CallOk Tryz.prog (lookT T78):=lookT_cons good mixed okT77 (of_p2 Cv)
theorem Cr (a b:AV)(h:Heap):AJ a b h=bodyK Tryz.prog (lookT T78) ann 38 [a,b] h:=by kernel_rfl
theorem okT79:CallOk Tryz.prog (lookT T79):=lookT_cons good mixed okT78 (of_p2 Cr)
theorem Df (a:AV)(h:Heap):CF a h=bodyK Tryz.prog (lookT T79) ann 124 [a] h:=by kernel_rfl
theorem okT80:CallOk Tryz.prog (lookT T80):=lookT_cons good mixed okT79 (of_p1 Df)
theorem EZ (a b:AV)(h:Heap):Bv a b h=bodyK Tryz.prog (lookT T80) ann 90 [a,b] h:=by kernel_rfl
theorem okT81:CallOk Tryz.prog (lookT T81):=lookT_cons good mixed okT80 (of_p2 EZ)
theorem DG (a b:AV)(h:Heap):Br a b h=bodyK Tryz.prog (lookT T81) ann 137 [a,b] h:=by kernel_rfl
theorem okT82:CallOk Tryz.prog (lookT T82):=lookT_cons good mixed okT81 (of_p2 DG)
theorem Cz (a b:AV)(h:Heap):BU a b h=bodyK Tryz.prog (lookT T82) ann 125 [a,b] h:=by kernel_rfl
theorem okT83:CallOk Tryz.prog (lookT T83):=lookT_cons good mixed okT82 (of_p2 Cz)
theorem Eq (a b:AV)(h:Heap):Cu a b h=bodyK Tryz.prog (lookT T83) ann 78 [a,b] h:=by kernel_rfl
theorem okT84:CallOk Tryz.prog (lookT T84):=lookT_cons good mixed okT83 (of_p2 Eq)
theorem EA (a b:AV)(h:Heap):Ay a b h=bodyK Tryz.prog (lookT T84) ann 59 [a,b] h:=by kernel_rfl
theorem okT85:CallOk Tryz.prog (lookT T85):=lookT_cons good mixed okT84 (of_p2 EA)
theorem Dp (a b:AV)(h:Heap):Bi a b h=bodyK Tryz.prog (lookT T85) ann 97 [a,b] h:=by kernel_rfl
theorem okT86:CallOk Tryz.prog (lookT T86):=lookT_cons good mixed okT85 (of_p2 Dp)
theorem ET (a b c:AV)(h:Heap):Cc a b c h=bodyK Tryz.prog (lookT T86) ann 91 [a,b,c] h:=by kernel_rfl
theorem okT87:CallOk Tryz.prog (lookT T87):=lookT_cons good mixed okT86 (of_p3 ET)
theorem Ei (a:AV)(h:Heap):Cg a h=bodyK Tryz.prog (lookT T87) ann 126 [a] h:=by kernel_rfl
theorem okT88:CallOk Tryz.prog (lookT T88):=lookT_cons good mixed okT87 (of_p1 Ei)
theorem EJ (a b c:AV)(h:Heap):CU a b c h=bodyK Tryz.prog (lookT T88) ann 138 [a,b,c] h:=by kernel_rfl
theorem okT89:CallOk Tryz.prog (lookT T89):=lookT_cons good mixed okT88 (of_p3 EJ)
theorem Dh (a b:AV)(h:Heap):CH a b h=bodyK Tryz.prog (lookT T89) ann 127 [a,b] h:=by kernel_rfl
theorem okT90:CallOk Tryz.prog (lookT T90):=lookT_cons good mixed okT89 (of_p2 Dh)
theorem EW (a:AV)(h:Heap):CY a h=bodyK Tryz.prog (lookT T90) ann 92 [a] h:=by kernel_rfl
theorem okT91:CallOk Tryz.prog (lookT T91):=lookT_cons good mixed okT90 (of_p1 EW)
theorem D1 (a:AV)(h:Heap):CO a h=bodyK Tryz.prog (lookT T91) ann 93 [a] h:=by kernel_rfl
theorem okT92:CallOk Tryz.prog (lookT T92):=lookT_cons good mixed okT91 (of_p1 D1)
theorem DJ (a:AV)(h:Heap):Bq a h=bodyK Tryz.prog (lookT T92) ann 94 [a] h:=by kernel_rfl
theorem okT93:CallOk Tryz.prog (lookT T93):=lookT_cons good mixed okT92 (of_p1 DJ)
theorem EV (a:AV)(h:Heap):Ca a h=bodyK Tryz.prog (lookT T93) ann 95 [a] h:=by kernel_rfl
theorem okT94:CallOk Tryz.prog (lookT T94):=lookT_cons good mixed okT93 (of_p1 EV)
theorem EG (a b:AV)(h:Heap):Bt a b h=bodyK Tryz.prog (lookT T94) ann 68 [a,b] h:=by kernel_rfl
theorem okT95:CallOk Tryz.prog (lookT T95):=lookT_cons good mixed okT94 (of_p2 EG)
theorem Dq (a:AV)(h:Heap):CP a h=bodyK Tryz.prog (lookT T95) ann 96 [a] h:=by kernel_rfl
theorem okT96:CallOk Tryz.prog (lookT T96):=lookT_cons good mixed okT95 (of_p1 Dq)
theorem Dn (a b:AV)(h:Heap):CL a b h=bodyK Tryz.prog (lookT T96) ann 69 [a,b] h:=by kernel_rfl
theorem okT97:CallOk Tryz.prog (lookT T97):=lookT_cons good mixed okT96 (of_p2 Dn)
theorem EC (a b:AV)(h:Heap):CN a b h=bodyK Tryz.prog (lookT T97) ann 48 [a,b] h:=by kernel_rfl
theorem okT98:CallOk Tryz.prog (lookT T98):=lookT_cons good mixed okT97 (of_p2 EC)
theorem FU (a:AV)(h:Heap):C9 a h=bodyK Tryz.prog (lookT T98) ann 49 [a] h:=by kernel_rfl
theorem okT99:CallOk Tryz.prog (lookT T99):=lookT_cons good mixed okT98 (of_p1 FU)
theorem Dz (a b c d:AV)(h:Heap):Ag a b c d h=bodyK Tryz.prog (lookT T99) ann 51 [a,b,c,d] h:=by kernel_rfl
theorem okT100:CallOk Tryz.prog (lookT T100):=lookT_cons good mixed okT99 (of_p4 Dz)
theorem Ep (a b c d:AV)(h:Heap):Bk a b c d h=bodyK Tryz.prog (lookT T100) ann 24 [a,b,c,d] h:=by kernel_rfl
theorem okT101:CallOk Tryz.prog (lookT T101):=lookT_cons good mixed okT100 (of_p4 Ep)
theorem FW (a b c d:AV)(h:Heap):Bw a b c d h=bodyK Tryz.prog (lookT T101) ann 25 [a,b,c,d] h:=by kernel_rfl
theorem okT102:CallOk Tryz.prog (lookT T102):=lookT_cons good mixed okT101 (of_p4 FW)
theorem FF (a b c d:AV)(h:Heap):CR a b c d h=bodyK Tryz.prog (lookT T102) ann 8 [a,b,c,d] h:=by kernel_rfl
theorem okT103:CallOk Tryz.prog (lookT T103):=lookT_cons good mixed okT102 (of_p4 FF)
theorem E5 (a b c:AV)(h:Heap):CT a b c h=bodyK Tryz.prog (lookT T103) ann 52 [a,b,c] h:=by kernel_rfl
theorem okT104:CallOk Tryz.prog (lookT T104):=lookT_cons good mixed okT103 (of_p3 E5)
theorem FV (a b c:AV)(h:Heap):C1 a b c h=bodyK Tryz.prog (lookT T104) ann 26 [a,b,c] h:=by kernel_rfl
theorem okT105:CallOk Tryz.prog (lookT T105):=lookT_cons good mixed okT104 (of_p3 FV)
theorem Ek (a b c:AV)(h:Heap):Ax a b c h=bodyK Tryz.prog (lookT T105) ann 10 [a,b,c] h:=by kernel_rfl
theorem okT106:CallOk Tryz.prog (lookT T106):=lookT_cons good mixed okT105 (of_p3 Ek)
theorem DQ (a b:AV)(h:Heap):AM a b h=bodyK Tryz.prog (lookT T106) ann 16 [a,b] h:=by kernel_rfl
theorem okT107:CallOk Tryz.prog (lookT T107):=lookT_cons good mixed okT106 (of_p2 DQ)
theorem EQ (a b:AV)(h:Heap):CV a b h=bodyK Tryz.prog (lookT T107) ann 18 [a,b] h:=by kernel_rfl
theorem okT108:CallOk Tryz.prog (lookT T108):=lookT_cons good mixed okT107 (of_p2 EQ)
theorem FI (a b:AV)(h:Heap):B5 a b h=bodyK Tryz.prog (lookT T108) ann 15 [a,b] h:=by kernel_rfl
theorem okT109:CallOk Tryz.prog (lookT T109):=lookT_cons good mixed okT108 (of_p2 FI)
theorem Et (h:Heap):DE h=bodyK Tryz.prog (lookT T109) ann 5 [] h:=by kernel_rfl
theorem Ew:isTrue (DE hQ1)=true:=by kernel_rfl
theorem okT110R:CallOk Tryz.prog (lookT ((5,p0 DE)::T109)):=lookT_cons good mixed okT109 (of_p0 Et)
theorem okT110:CallOk Tryz.prog (lookT T110):=by
 obtain⟨g,hg⟩:=isTrue_some Ew
 exact lookT_quiet0 okT109 okT110R (base1 oneGlobal) hg rfl
theorem DV (a b c d:AV)(h:Heap):A0 a b c d h=bodyK Tryz.prog (lookT T110) ann 36 [a,b,c,d] h:=by kernel_rfl
theorem okT111:CallOk Tryz.prog (lookT T111):=lookT_cons good mixed okT110 (of_p4 DV)
theorem FG (a b c d:AV)(h:Heap):Co a b c d h=bodyK Tryz.prog (lookT T111) ann 12 [a,b,c,d] h:=by kernel_rfl
theorem okT112:CallOk Tryz.prog (lookT T112):=lookT_cons good mixed okT111 (of_p4 FG)
theorem E2 (a b:AV)(h:Heap):Cb a b h=bodyK Tryz.prog (lookT T112) ann 13 [a,b] h:=by kernel_rfl
theorem okT113:CallOk Tryz.prog (lookT T113):=lookT_cons good mixed okT112 (of_p2 E2)
theorem E3 (a b:AV)(h:Heap):B8 a b h=bodyK Tryz.prog (lookT T113) ann 37 [a,b] h:=by kernel_rfl
theorem okT114:CallOk Tryz.prog (lookT T114):=lookT_cons good mixed okT113 (of_p2 E3)
theorem E9 (a b c:AV)(h:Heap):Cp a b c h=bodyK Tryz.prog (lookT T114) ann 14 [a,b,c] h:=by kernel_rfl
theorem okT115:CallOk Tryz.prog (lookT T115):=lookT_cons good mixed okT114 (of_p3 E9)
theorem Eg (a b c d:AV)(h:Heap):AR a b c d h=bodyK Tryz.prog (lookT T115) ann 4 [a,b,c,d] h:=by kernel_rfl
theorem okT116:CallOk Tryz.prog (lookT T116):=lookT_cons good mixed okT115 (of_p4 Eg)
noncomputable def tab:Tab:=T116
theorem okTab:CallOk Tryz.prog (lookT tab):=okT116
end Go.Proofs.YtdpdnkdafkcllaaGreatDoor.qu