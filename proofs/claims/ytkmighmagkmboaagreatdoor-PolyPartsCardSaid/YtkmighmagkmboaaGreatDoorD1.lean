/-
  A law of polynomials holds at every input that the statement speaks of, under the conditions that its card names. Part D1.
-/
import Derived.Test.YtkmighmagkmboaaGreatDoorC1
namespace Go.Ab
open Go
def ajs:Cmd:=.seq (.ops [1,2,3,5,9] [bx 5 2 (.t 0),bx 9 3 (.t 4),co 10 (.mv (.c (B false)))]) (.seq (.seq (.ops [1,2,3,5,9,26] [ca 25 F.l23_awake [],co 26 (.un .not (.t 25))]) (.cond (.t 26) (.seq (.ops [10] [co 10 (.mv (.c (B false)))]) (.ret)) (.skip))) (.seq (.seq (.ops [1,2,3,5,9,34] [la 27 2 5,⟨(some 28),none,.buildSl 2 [I 0,.emp] 1 [(0,.t 27)]⟩,ca 29 F.l23_great [.t 28],cm 30 29,⟨(some 31),(some (30,false)),.load 3 true (.t 9)⟩,⟨(some 32),(some (30,false)),.buildSl 3 [B false,.emp,I 0] 1 [(0,.t 31)]⟩,⟨(some 33),(some (30,false)),.call (.c (.fn F.l23_long [] [])) [.t 32]⟩,co 34 (.pick (.t 30) (.c (B true)) (.t 33))]) (.cond (.t 34) (.seq (.ops [10] [co 10 (.mv (.c (B true)))]) (.ret)) (.skip))) (.seq (.ops [1,2,3,5,9,11,12] [la 36 2 5,cm 37 1,ca 38 F.poly_Split [.t 36,.t 37],cm 35 38,co 39 (.ext 0 (.t 35)),co 40 (.ext 1 (.t 35)),al 11 [I 0,.emp],al 12 [I 0,.emp],sr 2 (.t 11) (.t 39),sr 2 (.t 12) (.t 40)]) (.seq (.ops [2,3,5,9,11,12,13,14] [la 42 2 5,cm 43 1,ca 44 F.r23_Split [.t 42,.t 43],cm 41 44,co 45 (.ext 0 (.t 41)),co 46 (.ext 1 (.t 41)),al 13 [I 0,.emp],al 14 [I 0,.emp],sr 2 (.t 13) (.t 45),sr 2 (.t 14) (.t 46)]) (.seq (.seq (.ops [2,3,5,9,56] [la 47 2 11,la 48 2 13,ca 49 F.r23_Same [.t 47,.t 48],co 50 (.un .not (.t 49)),cm 51 50,⟨(some 52),(some (51,false)),.load 2 true (.t 12)⟩,⟨(some 53),(some (51,false)),.load 2 true (.t 14)⟩,⟨(some 54),(some (51,false)),.call (.c (.fn F.r23_Same [] [])) [.t 52,.t 53]⟩,cg 55 51 false (.un .not (.t 54)),co 56 (.pick (.t 51) (.c (B true)) (.t 55))]) (.cond (.t 56) (.seq (.ops [10] [co 10 (.mv (.c (B false)))]) (.ret)) (.skip))) (.seq (.ops [2,3,5,9,15,16,17] [la 58 2 5,cm 59 2,ca 60 F.poly_Round [.t 58,.t 59],cm 57 60,co 61 (.ext 0 (.t 57)),co 62 (.ext 1 (.t 57)),co 63 (.ext 2 (.t 57)),al 15 [I 0,.emp],al 16 [I 0,.emp],sr 2 (.t 15) (.t 61),sr 2 (.t 16) (.t 62),cm 17 63]) (.seq (.ops [3,5,9,15,16,17,18,19,20] [la 65 2 5,cm 66 2,ca 67 F.r23_Round [.t 65,.t 66],cm 64 67,co 68 (.ext 0 (.t 64)),co 69 (.ext 1 (.t 64)),co 70 (.ext 2 (.t 64)),al 18 [I 0,.emp],al 19 [I 0,.emp],sr 2 (.t 18) (.t 68),sr 2 (.t 19) (.t 69),cm 20 70]) (.seq (.seq (.ops [3,5,9,84] [la 71 2 15,cm 72 17,la 73 2 18,cm 74 20,ca 75 F.l23_is [.t 71,.t 72,.t 73,.t 74],co 76 (.un .not (.t 75)),cm 77 76,⟨(some 78),(some (77,false)),.load 2 true (.t 16)⟩,cg 79 77 false (.mv (.t 17)),⟨(some 80),(some (77,false)),.load 2 true (.t 19)⟩,cg 81 77 false (.mv (.t 20)),⟨(some 82),(some (77,false)),.call (.c (.fn F.l23_is [] [])) [.t 78,.t 79,.t 80,.t 81]⟩,cg 83 77 false (.un .not (.t 82)),co 84 (.pick (.t 77) (.c (B true)) (.t 83))]) (.cond (.t 84) (.seq (.ops [10] [co 10 (.mv (.c (B false)))]) (.ret)) (.skip))) (.seq (.ops [3,5,9,21,22] [la 86 2 5,cm 87 3,la 88 3 9,ca 89 F.poly_Fix [.t 86,.t 87,.t 88],cm 85 89,co 90 (.ext 0 (.t 85)),co 91 (.ext 1 (.t 85)),al 21 [I 0,.emp],sr 2 (.t 21) (.t 90),cm 22 91]) (.seq (.ops [21,22,23,24] [la 93 2 5,cm 94 3,la 95 3 9,ca 96 F.r23_Fix [.t 93,.t 94,.t 95],cm 92 96,co 97 (.ext 0 (.t 92)),co 98 (.ext 1 (.t 92)),al 23 [I 0,.emp],sr 2 (.t 23) (.t 97),cm 24 98]) (.seq (.ops [10] [la 99 2 21,cm 100 22,la 101 2 23,cm 102 24,ca 103 F.l23_is [.t 99,.t 100,.t 101,.t 102],cm 10 103]) (.ret))))))))))))
def ais:FD:=⟨5,[[]],[.t 10],ajs⟩
def Ie:Cmd:=.seq (.ops [] [co 0 (.mv (.c (B false)))]) (.seq (.ops [1,2] [ca 15 F.l23_variable [.c (I 2),.c (I 0)],ca 16 F.l23_variable [.c (I 2),.c (I 1)],al 1 [I 0,.emp],al 2 [I 0,.emp],sr 2 (.t 1) (.t 15),sr 2 (.t 2) (.t 16)]) (.seq (.ops [1,2,3,4] [la 18 2 1,la 19 2 2,ca 20 F.poly_Add [.t 18,.t 19],cm 17 20,co 21 (.ext 0 (.t 17)),co 22 (.ext 1 (.t 17)),al 3 [I 0,.emp],sr 2 (.t 3) (.t 21),cm 4 22]) (.seq (.ops [3,4,5,6] [la 24 2 1,la 25 2 2,ca 26 F.poly_Sub [.t 24,.t 25],cm 23 26,co 27 (.ext 0 (.t 23)),co 28 (.ext 1 (.t 23)),al 5 [I 0,.emp],sr 2 (.t 5) (.t 27),cm 6 28]) (.seq (.ops [4,6,7,8] [la 30 2 3,la 31 2 5,ca 32 F.poly_Mul [.t 30,.t 31],cm 29 32,co 33 (.ext 0 (.t 29)),co 34 (.ext 1 (.t 29)),al 7 [I 0,.emp],sr 2 (.t 7) (.t 33),cm 8 34]) (.seq (.ops [4,6,7,8,9,10] [la 36 2 7,⟨(some 37),none,.buildSl 1 [.v (.string ⟨#[]⟩)] 2 [(0,.c (.v (.string ⟨#[120]⟩))),(1,.c (.v (.string ⟨#[121]⟩)))]⟩,ca 38 F.poly_Text [.t 36,.t 37],cm 35 38,co 39 (.ext 0 (.t 35)),co 40 (.ext 1 (.t 35)),cm 9 39,cm 10 40]) (.seq (.ops [4,6,7,8,9,10,11,12] [la 42 2 7,ca 43 F.poly_Derive [.t 42,.c (I 0)],cm 41 43,co 44 (.ext 0 (.t 41)),co 45 (.ext 1 (.t 41)),al 11 [I 0,.emp],sr 2 (.t 11) (.t 44),cm 12 45]) (.seq (.ops [4,6,7,8,9,10,12,13,14] [la 47 2 11,⟨(some 48),none,.buildSl 1 [.v (.string ⟨#[]⟩)] 2 [(0,.c (.v (.string ⟨#[120]⟩))),(1,.c (.v (.string ⟨#[121]⟩)))]⟩,ca 49 F.poly_Text [.t 47,.t 48],cm 46 49,co 50 (.ext 0 (.t 46)),co 51 (.ext 1 (.t 46)),cm 13 50,cm 14 51]) (.seq (.ops [0] [cm 52 4,co 53 (.bin .eql (.t 52) (.c (I 0))),cm 54 53,cg 55 54 true (.mv (.t 6)),cg 56 54 true (.bin .eql (.t 55) (.c (I 0))),co 57 (.pick (.t 54) (.t 56) (.c (B false))),cm 58 57,cg 59 58 true (.mv (.t 8)),cg 60 58 true (.bin .eql (.t 59) (.c (I 0))),co 61 (.pick (.t 58) (.t 60) (.c (B false))),cm 62 61,cg 63 62 true (.mv (.t 10)),cg 64 62 true (.bin .eql (.t 63) (.c (I 0))),co 65 (.pick (.t 62) (.t 64) (.c (B false))),cm 66 65,cg 67 66 true (.mv (.t 12)),cg 68 66 true (.bin .eql (.t 67) (.c (I 0))),co 69 (.pick (.t 66) (.t 68) (.c (B false))),cm 70 69,cg 71 70 true (.mv (.t 14)),cg 72 70 true (.bin .eql (.t 71) (.c (I 0))),co 73 (.pick (.t 70) (.t 72) (.c (B false))),cm 74 73,cg 75 74 true (.mv (.t 9)),cg 76 74 true (.bin .eql (.t 75) (.c (.v (.string ⟨#[49,112,48,42,120,94,50,32,43,32,45,49,112,48,42,121,94,50]⟩)))),co 77 (.pick (.t 74) (.t 76) (.c (B false))),cm 78 77,cg 79 78 true (.mv (.t 13)),cg 80 78 true (.bin .eql (.t 79) (.c (.v (.string ⟨#[49,112,49,42,120]⟩)))),co 81 (.pick (.t 78) (.t 80) (.c (B false))),cm 82 81,⟨(some 83),(some (82,true)),.load 2 true (.t 7)⟩,⟨(some 84),(some (82,true)),.call (.c (.fn F.poly_Valid [] [])) [.t 83]⟩,co 85 (.pick (.t 82) (.t 84) (.c (B false))),cm 0 85]) (.ret)))))))))
def wM:FD:=⟨0,[[]],[.t 0],Ie⟩
def yE:Cmd:=.seq (.ops [0] [co 2 (.mv (.c (B false)))]) (.seq (.ops [2] [cm 3 0,ca 4 F.slices_ContainsFunc_api_Poly_api_Poly_ [.t 3,.c (.fn F.l23_great_1 [] [])],cm 2 4]) (.ret))
def oB:FD:=⟨1,[[]],[.t 2],yE⟩
def BX:Cmd:=.seq (.ops [1,6,32,33,34,53,54,55,56] [b2 56 .lss 55 54]) (.seq (.cond (.t 56) (.skip) (.exit 2)) (.seq (.block 3 [1,6,32,33,34,53,54,55] (.seq (.ops [1,6,11,12,32,33,34,53,54,55] [cm 57 55,co 58 (.iadrS 1 (.t 53) (.t 55)),ld 59 1 58,cm 11 57,cm 12 59]) (.seq (.seq (.ops [1,6,11,12,32,33,34,53,54,55,61] [cm 60 12,co 61 (.bin .gtr (.t 60) (.c (I 0)))]) (.cond (.t 61) (.ops [1,6,12,32,33,34,53,54,55] [cm 62 6,cm 63 1,cm 64 11,co 65 (.iadrS 1 (.t 63) (.t 64)),ld 66 1 65,co 67 (.bin .add (.c (.v (.string ⟨#[42]⟩))) (.t 66)),b2 68 .add 62 67,cm 6 68]) (.skip))) (.seq (.ops [1,6,12,32,33,34,53,54,55,70] [cm 69 12,co 70 (.bin .gtr (.t 69) (.c (I 1)))]) (.cond (.t 70) (.ops [1,6,32,33,34,53,54,55] [cm 71 6,cm 72 12,ca 73 F.strconv_Itoa [.t 72],co 74 (.bin .add (.c (.v (.string ⟨#[94]⟩))) (.t 73)),b2 75 .add 71 74,cm 6 75]) (.skip)))))) (.ops [1,6,32,33,34,53,54,55] [co 76 (.bin .add (.t 55) (.c (I 1))),cm 55 76])))
def BY:Cmd:=.seq (.ops [1,6,32,33,34,35] [b2 35 .lss 34 33]) (.seq (.cond (.t 35) (.skip) (.exit 0)) (.seq (.block 1 [1,6,32,33,34] (.seq (.ops [1,6,7,8,32,33,34] [cm 36 34,co 37 (.iadrS 4 (.t 32) (.t 34)),la 38 4 37,al 8 [.emp,B false,.emp,I 0],cm 7 36,sr 4 (.t 8) (.t 38)]) (.seq (.seq (.ops [1,6,8,32,33,34,40] [cm 39 7,co 40 (.bin .gtr (.t 39) (.c (I 0)))]) (.cond (.t 40) (.ops [1,6,8,32,33,34] [cm 41 6,co 42 (.bin .add (.t 41) (.c (.v (.string ⟨#[32,43,32]⟩)))),cm 6 42]) (.skip))) (.seq (.ops [1,6,8,9,32,33,34] [fa 44 1 8,la 45 3 44,ca 46 F.dyadic_Text [.t 45],cm 43 46,co 47 (.ext 0 (.t 43)),co 48 (.ext 1 (.t 43)),cm 9 47,cm 10 48]) (.seq (.ops [1,6,8,32,33,34] [cm 49 6,cm 50 9,b2 51 .add 49 50,cm 6 51]) (.seq (.ops [1,6,32,33,34,53,54,55] [fa 52 0 8,ld 53 1 52,co 54 (.len false (.t 53)),co 55 (.mv (.c (I 0)))]) (.block 2 [1,6,32,33,34] (.loop [1,6,32,33,34,53,54,55] [2,8] BX)))))))) (.ops [1,6,32,33,34] [co 77 (.bin .add (.t 34) (.c (I 1))),cm 34 77])))
def If:Cmd:=.seq (.ops [1,2] [bx 2 2 (.t 0),co 4 (.mv (.c (.v (.string ⟨#[]⟩)))),co 5 (.mv (.c (I 0)))]) (.seq (.seq (.ops [1,2,26] [la 13 2 2,ca 14 F.poly_Valid [.t 13],co 15 (.un .not (.t 14)),cm 16 15,cg 17 16 false (.mv (.t 1)),cg 18 16 false (.len false (.t 17)),cg 19 16 false (.fadr 0 (.t 2)),⟨(some 20),(some (16,false)),.load 1 false (.t 19)⟩,cg 21 16 false (.bin .neq (.t 18) (.t 20)),co 22 (.pick (.t 16) (.c (B true)) (.t 21)),cm 23 22,cg 24 23 false (.mv (.t 1)),⟨(some 25),(some (23,false)),.call (.c (.fn F.slices_ContainsFunc_string_string_ [] [])) [.t 24,.c (.fn F.poly_Text_1 [] [])]⟩,co 26 (.pick (.t 23) (.c (B true)) (.t 25))]) (.cond (.t 26) (.seq (.ops [4,5] [co 4 (.mv (.c (.v (.string ⟨#[]⟩)))),co 5 (.mv (.c (I 1)))]) (.ret)) (.skip))) (.seq (.seq (.ops [1,2,30] [fa 27 1 2,ld 28 1 27,co 29 (.len false (.t 28)),co 30 (.bin .eql (.t 29) (.c (I 0)))]) (.cond (.t 30) (.seq (.ops [4,5] [co 4 (.mv (.c (.v (.string ⟨#[48]⟩)))),co 5 (.mv (.c (I 0)))]) (.ret)) (.skip))) (.seq (.ops [1,2,6] [co 6 (.mv (.c (.v (.string ⟨#[]⟩))))]) (.seq (.seq (.ops [1,6,32,33,34] [fa 31 1 2,ld 32 1 31,co 33 (.len false (.t 32)),co 34 (.mv (.c (I 0)))]) (.block 0 [6] (.loop [1,6,32,33,34] [2] BY))) (.seq (.ops [4,5] [cm 78 6,cm 4 78,co 5 (.mv (.c (I 0)))]) (.ret))))))
def wN:FD:=⟨2,[[],[]],[.t 4,.t 5],If⟩
def dL:Cmd:=.seq (.ops [1,4,6,31,32,33,34] [b2 34 .lss 33 32]) (.seq (.cond (.t 34) (.skip) (.exit 1)) (.seq (.block 2 [1,4,6,31,32,33] (.seq (.ops [1,4,6,8,31,32,33] [co 35 (.iadrS 4 (.t 31) (.t 33)),la 36 4 35,al 8 [.emp,B false,.emp,I 0],sr 4 (.t 8) (.t 36)]) (.seq (.seq (.ops [1,4,6,8,31,32,33,42] [fa 37 0 8,ld 38 1 37,cm 39 1,co 40 (.iadrS 1 (.t 38) (.t 39)),ld 41 1 40,co 42 (.bin .eql (.t 41) (.c (I 0)))]) (.cond (.t 42) (.exit 2) (.skip))) (.seq (.dops [1,4,6,8,9,10,31,32,33] [fa 44 1 8,la 45 3 44,fa 46 0 8,ld 47 1 46,cm 48 1,co 49 (.iadrS 1 (.t 47) (.t 48)),ld 50 1 49,ca 51 F.dyadic_Int [.t 50],ca 52 F.dyadic_Mul [.t 45,.t 51],cm 43 52,co 53 (.ext 0 (.t 43)),co 54 (.ext 1 (.t 43)),al 9 [B false,.emp,I 0],sr 3 (.t 9) (.t 53),cm 10 54] [(1,7),(1,12),(3,12),(6,12),(7,12),(8,12)]) (.seq (.seq (.ops [1,4,6,8,9,31,32,33,56] [cm 55 10,co 56 (.bin .neq (.t 55) (.c (I 0)))]) (.cond (.t 56) (.seq (.ops [4,5] [co 57 (.build [I 0,.emp] []),sr 2 (.t 4) (.t 57),co 5 (.mv (.c (I 9)))]) (.ret)) (.skip))) (.seq (.ops [1,4,6,9,11,31,32,33] [fa 58 0 8,ld 59 1 58,ca 60 F.slices_Clone_int_int_ [.t 59],cm 11 60]) (.seq (.ops [1,4,6,9,11,31,32,33] [cm 61 11,cm 62 1,co 63 (.iadrS 1 (.t 61) (.t 62)),ld 64 1 63,co 65 (.bin .sub (.t 64) (.c (I 1))),co 66 (.iadrS 1 (.t 61) (.t 62)),sr 1 (.t 66) (.t 65)]) (.ops [1,4,6,31,32,33] [cm 67 6,cm 68 11,la 69 3 9,ca 70 F.poly_collector_add [.t 67,.t 68,.t 69]])))))))) (.ops [1,4,6,31,32,33] [co 71 (.bin .add (.t 33) (.c (I 1))),cm 33 71])))
def kw:Cmd:=.seq (.ops [1,2,4] [bx 2 2 (.t 0),al 4 [I 0,.emp],co 5 (.mv (.c (I 0)))]) (.seq (.block 0 [1,2,4] (.seq (.ops [1,2,4,12] [la 13 2 2,ca 14 F.poly_Valid [.t 13],co 15 (.un .not (.t 14)),cm 12 15]) (.cond (.t 12) (.seq (.ops [4,5] [co 16 (.build [I 0,.emp] []),sr 2 (.t 4) (.t 16),co 5 (.mv (.c (I 1)))]) (.ret)) (.seq (.ops [1,2,4,17] [cm 18 1,co 19 (.bin .lss (.t 18) (.c (I 0))),cm 20 19,cg 21 20 false (.mv (.t 1)),cg 22 20 false (.fadr 0 (.t 2)),⟨(some 23),(some (20,false)),.load 1 false (.t 22)⟩,cg 24 20 false (.bin .geq (.t 21) (.t 23)),co 25 (.pick (.t 20) (.c (B true)) (.t 24)),cm 17 25]) (.cond (.t 17) (.seq (.ops [4,5] [co 26 (.build [I 0,.emp] []),sr 2 (.t 4) (.t 26),co 5 (.mv (.c (I 2)))]) (.ret)) (.skip)))))) (.seq (.ops [1,2,4,6] [fa 27 0 2,ld 28 1 27,ca 29 F.poly_empty [.t 28],cm 6 29]) (.seq (.seq (.ops [1,4,6,31,32,33] [fa 30 1 2,ld 31 1 30,co 32 (.len false (.t 31)),co 33 (.mv (.c (I 0)))]) (.block 1 [4,6] (.loop [1,4,6,31,32,33] [2,4,2232] dL))) (.seq (.ops [4,5] [cm 72 6,ca 73 F.poly_collector_done [.t 72],co 74 (.ext 0 (.t 73)),co 75 (.ext 1 (.t 73)),sr 2 (.t 4) (.t 74),cm 5 75]) (.ret)))))
def eO:FD:=⟨2,[[.o 0 [],.o 5 [.o 2 [],.o 0 [],.o 2 [],.o 0 []]],[]],[.cell 4 2 true,.t 5],kw⟩
def ig:Cmd:=.seq (.ops [3,4,6,8,11,13,46,47,48,53,54,55,74,75,76,77] [b2 77 .lss 76 75]) (.seq (.cond (.t 77) (.skip) (.exit 5)) (.seq (.block 6 [3,4,6,8,11,13,46,47,48,53,54,55,74,75,76] (.seq (.ops [3,4,6,8,11,13,14,15,46,47,48,53,54,55,74,75,76] [cm 78 76,co 79 (.iadrS 1 (.t 74) (.t 76)),ld 80 1 79,cm 14 78,cm 15 80]) (.ops [3,4,6,8,11,13,46,47,48,53,54,55,74,75,76] [cm 81 13,cm 82 14,co 83 (.iadrS 1 (.t 81) (.t 82)),ld 84 1 83,cm 85 15,b2 86 .add 84 85,co 87 (.iadrS 1 (.t 81) (.t 82)),sr 1 (.t 87) (.t 86)]))) (.ops [3,4,6,8,11,13,46,47,48,53,54,55,74,75,76] [co 88 (.bin .add (.t 76) (.c (I 1))),cm 76 88])))
def fJ:Cmd:=.seq (.ops [3,4,6,8,46,47,48,53,54,55,56] [b2 56 .lss 55 54]) (.seq (.cond (.t 56) (.skip) (.exit 3)) (.seq (.block 4 [3,4,6,8,46,47,48,53,54,55] (.seq (.ops [3,4,6,8,10,46,47,48,53,54,55] [co 57 (.iadrS 4 (.t 53) (.t 55)),la 58 4 57,al 10 [.emp,B false,.emp,I 0],sr 4 (.t 10) (.t 58)]) (.seq (.ops [3,4,6,8,10,11,12,46,47,48,53,54,55] [fa 60 1 8,la 61 3 60,fa 62 1 10,la 63 3 62,ca 64 F.dyadic_Mul [.t 61,.t 63],cm 59 64,co 65 (.ext 0 (.t 59)),co 66 (.ext 1 (.t 59)),al 11 [B false,.emp,I 0],sr 3 (.t 11) (.t 65),cm 12 66]) (.seq (.seq (.ops [3,4,6,8,10,11,46,47,48,53,54,55,68] [cm 67 12,co 68 (.bin .neq (.t 67) (.c (I 0)))]) (.cond (.t 68) (.seq (.ops [4,5] [co 69 (.build [I 0,.emp] []),sr 2 (.t 4) (.t 69),co 5 (.mv (.c (I 9)))]) (.ret)) (.skip))) (.seq (.ops [3,4,6,8,10,11,13,46,47,48,53,54,55] [fa 70 0 8,ld 71 1 70,ca 72 F.slices_Clone_int_int_ [.t 71],cm 13 72]) (.seq (.seq (.ops [3,4,6,8,11,13,46,47,48,53,54,55,74,75,76] [fa 73 0 10,ld 74 1 73,co 75 (.len false (.t 74)),co 76 (.mv (.c (I 0)))]) (.block 5 [3,4,6,8,11,13,46,47,48,53,54,55] (.loop [3,4,6,8,11,13,46,47,48,53,54,55,74,75,76] [2,3,4,8,10,11,2352,2576] ig))) (.ops [3,4,6,8,46,47,48,53,54,55] [cm 89 6,cm 90 13,la 91 3 11,ca 92 F.poly_collector_add [.t 89,.t 90,.t 91]]))))))) (.ops [3,4,6,8,46,47,48,53,54,55] [co 93 (.bin .add (.t 55) (.c (I 1))),cm 55 93])))
def ky:Cmd:=.seq (.ops [3,4,6,46,47,48,49] [b2 49 .lss 48 47]) (.seq (.cond (.t 49) (.skip) (.exit 1)) (.seq (.block 2 [3,4,6,46,47,48] (.seq (.ops [3,4,6,8,46,47,48] [co 50 (.iadrS 4 (.t 46) (.t 48)),la 51 4 50,al 8 [.emp,B false,.emp,I 0],sr 4 (.t 8) (.t 51)]) (.seq (.ops [3,4,6,8,46,47,48,53,54,55] [fa 52 1 3,ld 53 1 52,co 54 (.len false (.t 53)),co 55 (.mv (.c (I 0)))]) (.block 3 [3,4,6,46,47,48] (.loop [3,4,6,8,46,47,48,53,54,55] [2,3,4,8,2352] fJ))))) (.ops [3,4,6,46,47,48] [co 94 (.bin .add (.t 48) (.c (I 1))),cm 48 94])))
def awR:Cmd:=.seq (.ops [2,3,4] [bx 2 2 (.t 0),bx 3 2 (.t 1),al 4 [I 0,.emp],co 5 (.mv (.c (I 0)))]) (.seq (.block 0 [2,3,4] (.seq (.ops [2,3,4,16] [la 17 2 2,la 18 2 3,ca 19 F.poly_pair [.t 17,.t 18],co 20 (.un .not (.t 19)),cm 16 20]) (.cond (.t 16) (.seq (.ops [4,5] [co 21 (.build [I 0,.emp] []),sr 2 (.t 4) (.t 21),co 5 (.mv (.c (I 1)))]) (.ret)) (.seq (.dops [2,3,4,22] [fa 23 1 2,ld 24 1 23,co 25 (.len false (.t 24)),co 26 (.bin .gtr (.t 25) (.c (I 0))),cm 27 26,cg 28 27 true (.fadr 1 (.t 3)),⟨(some 29),(some (27,true)),.load 1 false (.t 28)⟩,cg 30 27 true (.len false (.t 29)),cg 31 27 true (.bin .gtr (.t 30) (.c (I 0))),co 32 (.pick (.t 27) (.t 31) (.c (B false))),cm 33 32,⟨(some 34),(some (33,true)),.load 2 true (.t 2)⟩,⟨(some 35),(some (33,true)),.call (.c (.fn F.poly_Degree [] [])) [.t 34]⟩,⟨(some 36),(some (33,true)),.load 2 true (.t 3)⟩,⟨(some 37),(some (33,true)),.call (.c (.fn F.poly_Degree [] [])) [.t 36]⟩,cg 38 33 true (.bin .add (.t 35) (.t 37)),cg 39 33 true (.bin .gtr (.t 38) (.c (I 32))),co 40 (.pick (.t 33) (.t 39) (.c (B false))),cm 22 40] [(12,13)]) (.cond (.t 22) (.seq (.ops [4,5] [co 41 (.build [I 0,.emp] []),sr 2 (.t 4) (.t 41),co 5 (.mv (.c (I 5)))]) (.ret)) (.skip)))))) (.seq (.ops [2,3,4,6] [fa 42 0 2,ld 43 1 42,ca 44 F.poly_empty [.t 43],cm 6 44]) (.seq (.seq (.ops [3,4,6,46,47,48] [fa 45 1 2,ld 46 1 45,co 47 (.len false (.t 46)),co 48 (.mv (.c (I 0)))]) (.block 1 [4,6] (.loop [3,4,6,46,47,48] [2,3,4,2352] ky))) (.seq (.ops [4,5] [cm 95 6,ca 96 F.poly_collector_done [.t 95],co 97 (.ext 0 (.t 96)),co 98 (.ext 1 (.t 96)),sr 2 (.t 4) (.t 97),cm 5 98]) (.ret)))))
def gu:FD:=⟨2,[[.o 0 [],.o 5 [.o 2 [],.o 0 [],.o 2 [],.o 0 []]],[]],[.cell 4 2 true,.t 5],awR⟩
def kz:Cmd:=.seq (.ops [4,6,22,23,24,25] [b2 25 .lss 24 23]) (.seq (.cond (.t 25) (.skip) (.exit 0)) (.seq (.block 1 [4,6,22,23,24] (.seq (.ops [4,6,8,22,23,24] [co 26 (.iadrS 4 (.t 22) (.t 24)),la 27 4 26,al 8 [.emp,B false,.emp,I 0],sr 4 (.t 8) (.t 27)]) (.ops [4,6,22,23,24] [cm 28 6,fa 29 0 8,ld 30 1 29,fa 31 1 8,la 32 3 31,ca 33 F.poly_collector_add [.t 28,.t 30,.t 32]]))) (.ops [4,6,22,23,24] [co 34 (.bin .add (.t 24) (.c (I 1))),cm 24 34])))
def uI:Cmd:=.seq (.ops [2,3,4] [bx 2 2 (.t 0),bx 3 2 (.t 1),al 4 [I 0,.emp],co 5 (.mv (.c (I 0)))]) (.seq (.seq (.ops [2,3,4,12] [la 9 2 2,la 10 2 3,ca 11 F.poly_pair [.t 9,.t 10],co 12 (.un .not (.t 11))]) (.cond (.t 12) (.seq (.ops [4,5] [co 13 (.build [I 0,.emp] []),sr 2 (.t 4) (.t 13),co 5 (.mv (.c (I 1)))]) (.ret)) (.skip))) (.seq (.ops [2,3,4,6] [fa 14 0 2,ld 15 1 14,ca 16 F.poly_empty [.t 15],cm 6 16]) (.seq (.seq (.ops [4,6,22,23,24] [fa 17 1 2,ld 18 1 17,fa 19 1 3,ld 20 1 19,⟨(some 21),none,.buildSl 1 [.emp] 2 [(0,.t 18),(1,.t 20)]⟩,ca 22 F.slices_Concat_api_Term_api_Term_ [.t 21],co 23 (.len false (.t 22)),co 24 (.mv (.c (I 0)))]) (.block 0 [4,6] (.loop [4,6,22,23,24] [4,2128] kz))) (.seq (.ops [4,5] [cm 35 6,ca 36 F.poly_collector_done [.t 35],co 37 (.ext 0 (.t 36)),co 38 (.ext 1 (.t 36)),sr 2 (.t 4) (.t 37),cm 5 38]) (.ret)))))
def mN:FD:=⟨2,[[.o 0 [],.o 5 [.o 2 [],.o 0 [],.o 2 [],.o 0 []]],[]],[.cell 4 2 true,.t 5],uI⟩
def afh:Cmd:=.seq (.ops [0] [co 2 (.mv (.c (B false)))]) (.seq (.ops [2] [cm 3 0,co 4 (.len false (.t 3)),co 5 (.bin .gtr (.t 4) (.c (I 20))),cm 6 5,cg 7 6 false (.mv (.t 0)),⟨(some 8),(some (6,false)),.call (.c (.fn F.slices_ContainsFunc_api_Dyadic_api_Dyadic_ [] [])) [.t 7,.c (.fn F.l23_long_1 [] [])]⟩,co 9 (.pick (.t 6) (.c (B true)) (.t 8)),cm 2 9]) (.ret))
def aeV:FD:=⟨1,[[]],[.t 2],afh⟩
def oC:Cmd:=.seq (.ops [2,3,4] [bx 2 3 (.t 0),bx 3 3 (.t 1),al 4 [B false,.emp,I 0],co 5 (.mv (.c (I 0)))]) (.seq (.seq (.ops [2,3,4,13] [la 6 3 2,ca 7 F.dyadic_Valid [.t 6],co 8 (.un .not (.t 7)),cm 9 8,⟨(some 10),(some (9,false)),.load 3 true (.t 3)⟩,⟨(some 11),(some (9,false)),.call (.c (.fn F.dyadic_Valid [] [])) [.t 10]⟩,cg 12 9 false (.un .not (.t 11)),co 13 (.pick (.t 9) (.c (B true)) (.t 12))]) (.cond (.t 13) (.seq (.ops [4,5] [co 14 (.build [B false,.emp,I 0] []),sr 3 (.t 4) (.t 14),co 5 (.mv (.c (I 1)))]) (.ret)) (.skip))) (.seq (.ops [4,5] [la 15 3 2,la 16 3 3,ca 17 F.dyadic_sum [.t 15,.t 16],co 18 (.ext 0 (.t 17)),co 19 (.ext 1 (.t 17)),sr 3 (.t 4) (.t 18),cm 5 19]) (.ret)))
def ij:FD:=⟨2,[[.o 0 [],.o 2 [],.o 0 []],[]],[.cell 4 3 true,.t 5],oC⟩
def DB:Cmd:=.seq (.ops [2,4,6,18,19,20,21] [b2 21 .lss 20 19]) (.seq (.cond (.t 21) (.skip) (.exit 0)) (.seq (.block 1 [2,4,6,18,19,20] (.seq (.ops [2,4,6,8,18,19,20] [co 22 (.iadrS 4 (.t 18) (.t 20)),la 23 4 22,al 8 [.emp,B false,.emp,I 0],sr 4 (.t 8) (.t 23)]) (.dops [2,4,6,18,19,20] [fa 24 1 6,ld 25 1 24,fa 26 0 8,ld 27 1 26,fa 28 1 8,la 29 3 28,ca 30 F.dyadic_Neg [.t 29],co 31 (.build [.emp,B false,.emp,I 0] [(0,1,.t 27),(1,3,.t 30)]),⟨(some 32),none,.buildSl 4 [.emp,B false,.emp,I 0] 1 [(0,.t 31)]⟩,⟨(some 33),none,.app 4 64 (.t 25) (.t 32)⟩,fa 34 1 6,sr 1 (.t 34) (.t 33)] [(1000009,26),(1,6),(3,6),(1,8)]))) (.ops [2,4,6,18,19,20] [co 35 (.bin .add (.t 20) (.c (I 1))),cm 20 35])))
def Ks:Cmd:=.seq (.ops [2,3,4] [bx 2 2 (.t 0),bx 3 2 (.t 1),al 4 [I 0,.emp],co 5 (.mv (.c (I 0)))]) (.seq (.seq (.ops [2,3,4,12] [la 9 2 2,la 10 2 3,ca 11 F.poly_pair [.t 9,.t 10],co 12 (.un .not (.t 11))]) (.cond (.t 12) (.seq (.ops [4,5] [co 13 (.build [I 0,.emp] []),sr 2 (.t 4) (.t 13),co 5 (.mv (.c (I 1)))]) (.ret)) (.skip))) (.seq (.ops [2,3,4,6] [fa 14 0 3,ld 15 1 14,co 16 (.build [I 0,.emp] [(0,1,.t 15)]),al 6 [I 0,.emp],sr 2 (.t 6) (.t 16)]) (.seq (.seq (.ops [2,4,6,18,19,20] [fa 17 1 3,ld 18 1 17,co 19 (.len false (.t 18)),co 20 (.mv (.c (I 0)))]) (.block 0 [2,4,6] (.loop [2,4,6,18,19,20] [2,3,4,6] DB))) (.seq (.ops [4,5] [la 36 2 2,la 37 2 6,ca 38 F.poly_Add [.t 36,.t 37],co 39 (.ext 0 (.t 38)),co 40 (.ext 1 (.t 38)),sr 2 (.t 4) (.t 39),cm 5 40]) (.ret)))))
def yF:FD:=⟨2,[[.o 0 [],.o 5 [.o 2 [],.o 0 [],.o 2 [],.o 0 []]],[]],[.cell 4 2 true,.t 5],Ks⟩
def ae3:Cmd:=.seq (.ops [2,3,4] [bx 2 3 (.t 0),bx 3 3 (.t 1),al 4 [B false,.emp,I 0],co 5 (.mv (.c (I 0)))]) (.seq (.seq (.ops [2,3,4,13] [la 6 3 2,ca 7 F.dyadic_Valid [.t 6],co 8 (.un .not (.t 7)),cm 9 8,⟨(some 10),(some (9,false)),.load 3 true (.t 3)⟩,⟨(some 11),(some (9,false)),.call (.c (.fn F.dyadic_Valid [] [])) [.t 10]⟩,cg 12 9 false (.un .not (.t 11)),co 13 (.pick (.t 9) (.c (B true)) (.t 12))]) (.cond (.t 13) (.seq (.ops [4,5] [co 14 (.build [B false,.emp,I 0] []),sr 3 (.t 4) (.t 14),co 5 (.mv (.c (I 1)))]) (.ret)) (.skip))) (.seq (.dops [4,5] [la 15 3 2,la 16 3 3,ca 17 F.dyadic_Neg [.t 16],ca 18 F.dyadic_sum [.t 15,.t 17],co 19 (.ext 0 (.t 18)),co 20 (.ext 1 (.t 18)),sr 3 (.t 4) (.t 19),cm 5 20] [(0,2)]) (.ret)))
def ad6:FD:=⟨2,[[.o 0 [],.o 2 [],.o 0 []],[]],[.cell 4 3 true,.t 5],ae3⟩
def fy:Cmd:=.seq (.ops [2,3,4] [bx 2 3 (.t 0),bx 3 3 (.t 1),al 4 [B false,.emp,I 0],co 5 (.mv (.c (I 0)))]) (.seq (.seq (.ops [2,3,4,15] [la 8 3 2,ca 9 F.dyadic_Valid [.t 8],co 10 (.un .not (.t 9)),cm 11 10,⟨(some 12),(some (11,false)),.load 3 true (.t 3)⟩,⟨(some 13),(some (11,false)),.call (.c (.fn F.dyadic_Valid [] [])) [.t 12]⟩,cg 14 11 false (.un .not (.t 13)),co 15 (.pick (.t 11) (.c (B true)) (.t 14))]) (.cond (.t 15) (.seq (.ops [4,5] [co 16 (.build [B false,.emp,I 0] []),sr 3 (.t 4) (.t 16),co 5 (.mv (.c (I 1)))]) (.ret)) (.skip))) (.seq (.seq (.ops [2,3,4,26] [fa 17 1 2,ld 18 1 17,co 19 (.len false (.t 18)),co 20 (.bin .eql (.t 19) (.c (I 0))),cm 21 20,cg 22 21 false (.fadr 1 (.t 3)),⟨(some 23),(some (21,false)),.load 1 false (.t 22)⟩,cg 24 21 false (.len false (.t 23)),cg 25 21 false (.bin .eql (.t 24) (.c (I 0))),co 26 (.pick (.t 21) (.c (B true)) (.t 25))]) (.cond (.t 26) (.seq (.ops [4,5] [co 27 (.build [B false,.emp,I 0] []),sr 3 (.t 4) (.t 27),co 5 (.mv (.c (I 0)))]) (.ret)) (.skip))) (.seq (.seq (.dops [2,3,4,36] [fa 28 1 2,ld 29 1 28,ca 30 F.dyadic_size [.t 29],fa 31 1 3,ld 32 1 31,ca 33 F.dyadic_size [.t 32],b2 34 .add 30 33,co 35 (.bin .sub (.t 34) (.c (I 1))),co 36 (.bin .gtr (.t 35) (.c (I 4096)))] [(2,4)]) (.cond (.t 36) (.seq (.ops [4,5] [co 37 (.build [B false,.emp,I 0] []),sr 3 (.t 4) (.t 37),co 5 (.mv (.c (I 9)))]) (.ret)) (.skip))) (.seq (.ops [2,3,4,6] [fa 39 1 2,ld 40 1 39,fa 41 1 3,ld 42 1 41,ca 43 F.natural_Mul [.t 40,.t 42],cm 38 43,co 44 (.ext 0 (.t 38)),co 45 (.ext 1 (.t 38)),cm 6 44,cm 7 45]) (.seq (.ops [4,5] [fa 46 0 2,ld 47 1 46,fa 48 0 3,ld 49 1 48,co 50 (.eqc true 0 (.t 47) (.t 49)),cm 51 6,fa 52 2 2,ld 53 1 52,fa 54 2 3,ld 55 1 54,b2 56 .add 53 55,ca 57 F.dyadic_canonical [.t 50,.t 51,.t 56],ca 58 F.dyadic_checked [.t 57],co 59 (.ext 0 (.t 58)),co 60 (.ext 1 (.t 58)),sr 3 (.t 4) (.t 59),cm 5 60]) (.ret))))))
def dh:FD:=⟨2,[[.o 0 [],.o 2 [],.o 0 []],[]],[.cell 4 3 true,.t 5],fy⟩
def aiF:Cmd:=.seq (.ops [1,4,5,6,7,22,23,24,25] [b2 25 .lss 24 23]) (.seq (.cond (.t 25) (.skip) (.exit 0)) (.seq (.block 1 [1,4,5,6,7,22,23,24] (.seq (.ops [1,4,5,6,7,9,22,23,24] [co 26 (.iadrS 4 (.t 22) (.t 24)),la 27 4 26,al 9 [.emp,B false,.emp,I 0],sr 4 (.t 9) (.t 27)]) (.seq (.ops [1,4,5,6,7,9,22,23,24,32] [fa 28 0 9,ld 29 1 28,ca 30 F.poly_degree [.t 29],cm 31 1,b2 32 .leq 30 31]) (.cond (.t 32) (.ops [1,4,5,6,7,22,23,24] [cm 33 6,fa 34 0 9,ld 35 1 34,fa 36 1 9,la 37 3 36,ca 38 F.poly_collector_add [.t 33,.t 35,.t 37]]) (.ops [1,4,5,6,7,22,23,24] [cm 39 7,fa 40 0 9,ld 41 1 40,fa 42 1 9,la 43 3 42,ca 44 F.poly_collector_add [.t 39,.t 41,.t 43]]))))) (.ops [1,4,5,6,7,22,23,24] [co 45 (.bin .add (.t 24) (.c (I 1))),cm 24 45])))
def akK:Cmd:=.seq (.ops [1,2,4,5] [bx 2 2 (.t 0),al 4 [I 0,.emp],al 5 [I 0,.emp]]) (.seq (.seq (.ops [1,2,4,5,12] [la 10 2 2,ca 11 F.poly_Valid [.t 10],co 12 (.un .not (.t 11))]) (.cond (.t 12) (.seq (.ops [4,5] [co 13 (.build [I 0,.emp] []),co 14 (.build [I 0,.emp] []),sr 2 (.t 4) (.t 13),sr 2 (.t 5) (.t 14)]) (.ret)) (.skip))) (.seq (.dops [1,2,4,5,6,7] [fa 15 0 2,ld 16 1 15,ca 17 F.poly_empty [.t 16],fa 18 0 2,ld 19 1 18,ca 20 F.poly_empty [.t 19],cm 6 17,cm 7 20] [(2,4)]) (.seq (.seq (.ops [1,4,5,6,7,22,23,24] [fa 21 1 2,ld 22 1 21,co 23 (.len false (.t 22)),co 24 (.mv (.c (I 0)))]) (.block 0 [4,5,6,7] (.loop [1,4,5,6,7,22,23,24] [2,4,5,2136,2160] aiF))) (.seq (.frz [6,7] (.dops [4,5] [cm 46 6,nk 47 46,fa 48 0 47,la 49 2 48,cm 50 7,nk 51 50,fa 52 0 51,la 53 2 52,sr 2 (.t 4) (.t 49),sr 2 (.t 5) (.t 53)] [(7,8)])) (.ret)))))
def aji:FD:=⟨2,[[.o 0 [],.o 5 [.o 2 [],.o 0 [],.o 2 [],.o 0 []]],[.o 0 [],.o 5 [.o 2 [],.o 0 [],.o 2 [],.o 0 []]]],[.cell 4 2 true,.cell 5 2 true],akK⟩
def x3:Cmd:=.seq (.seq (.ops [1,2,4,5,6,7,8,24] [cm 20 8,fa 21 1 2,ld 22 1 21,co 23 (.len false (.t 22)),b2 24 .lss 20 23]) (.cond (.t 24) (.skip) (.exit 0))) (.seq (.block 1 [1,2,4,5,6,7,8] (.seq (.ops [1,2,4,5,6,7,8,35] [fa 27 1 2,ld 28 1 27,cm 29 8,co 30 (.iadrS 4 (.t 28) (.t 29)),fa 31 0 30,ld 32 1 31,ca 33 F.r23_sum [.t 32],cm 34 1,b2 35 .leq 33 34]) (.cond (.t 35) (.dops [1,2,4,5,6,7,8] [fa 36 1 6,ld 37 1 36,fa 38 1 2,ld 39 1 38,cm 40 8,co 41 (.iadrS 4 (.t 39) (.t 40)),la 42 4 41,⟨(some 43),none,.buildSl 4 [.emp,B false,.emp,I 0] 1 [(0,.t 42)]⟩,⟨(some 44),none,.app 4 64 (.t 37) (.t 43)⟩,fa 45 1 6,sr 1 (.t 45) (.t 44)] [(1000008,38),(1,7)]) (.dops [1,2,4,5,6,7,8] [fa 46 1 7,ld 47 1 46,fa 48 1 2,ld 49 1 48,cm 50 8,co 51 (.iadrS 4 (.t 49) (.t 50)),la 52 4 51,⟨(some 53),none,.buildSl 4 [.emp,B false,.emp,I 0] 1 [(0,.t 52)]⟩,⟨(some 54),none,.app 4 64 (.t 47) (.t 53)⟩,fa 55 1 7,sr 1 (.t 55) (.t 54)] [(1000008,48),(1,7)])))) (.ops [1,2,4,5,6,7,8] [cm 25 8,co 26 (.bin .add (.t 25) (.c (I 1))),cm 8 26]))
def akW:Cmd:=.seq (.ops [1,2,4,5] [bx 2 2 (.t 0),al 4 [I 0,.emp],al 5 [I 0,.emp]]) (.seq (.seq (.ops [1,2,4,5,11] [la 9 2 2,ca 10 F.r23_Valid [.t 9],co 11 (.un .not (.t 10))]) (.cond (.t 11) (.seq (.ops [4,5] [co 12 (.build [I 0,.emp] []),co 13 (.build [I 0,.emp] []),sr 2 (.t 4) (.t 12),sr 2 (.t 5) (.t 13)]) (.ret)) (.skip))) (.seq (.dops [1,2,4,5,6,7] [fa 14 0 2,ld 15 1 14,co 16 (.build [I 0,.emp] [(0,1,.t 15)]),fa 17 0 2,ld 18 1 17,co 19 (.build [I 0,.emp] [(0,1,.t 18)]),al 6 [I 0,.emp],al 7 [I 0,.emp],sr 2 (.t 6) (.t 16),sr 2 (.t 7) (.t 19)] [(1,6),(4,6),(1,7),(4,7),(6,7),(4,8)]) (.seq (.seq (.ops [1,2,4,5,6,7,8] [co 8 (.mv (.c (I 0)))]) (.block 0 [4,5,6,7] (.loop [1,2,4,5,6,7,8] [2,4,5,6,7] x3))) (.seq (.frz [6,7] (.dops [4,5] [la 56 2 6,la 57 2 7,sr 2 (.t 4) (.t 56),sr 2 (.t 5) (.t 57)] [(1,2)])) (.ret)))))
def ajv:FD:=⟨2,[[.o 0 [],.o 5 [.o 2 [],.o 0 [],.o 2 [],.o 0 []]],[.o 0 [],.o 5 [.o 2 [],.o 0 [],.o 2 [],.o 0 []]]],[.cell 4 2 true,.cell 5 2 true],akW⟩
def aiI:Cmd:=.seq (.seq (.ops [2,3,5,26] [cm 22 5,fa 23 1 2,ld 24 1 23,co 25 (.len false (.t 24)),b2 26 .lss 22 25]) (.cond (.t 26) (.skip) (.exit 0))) (.seq (.block 1 [2,3,5] (.seq (.dops [2,3,5,6,7] [fa 29 1 2,ld 30 1 29,cm 31 5,co 32 (.iadrS 4 (.t 30) (.t 31)),la 33 4 32,fa 34 1 3,ld 35 1 34,cm 36 5,co 37 (.iadrS 4 (.t 35) (.t 36)),la 38 4 37,al 6 [.emp,B false,.emp,I 0],al 7 [.emp,B false,.emp,I 0],sr 4 (.t 6) (.t 33),sr 4 (.t 7) (.t 38)] [(1,10),(4,10),(6,10),(9,10),(1,11),(4,11),(6,11),(9,11),(10,11),(6,12),(9,12)]) (.seq (.ops [2,3,5,61] [fa 39 0 6,ld 40 1 39,co 41 (.len false (.t 40)),fa 42 0 7,ld 43 1 42,co 44 (.len false (.t 43)),b2 45 .neq 41 44,cm 46 45,cg 47 46 false (.fadr 0 (.t 6)),⟨(some 48),(some (46,false)),.load 1 false (.t 47)⟩,cg 49 46 false (.fadr 0 (.t 7)),⟨(some 50),(some (46,false)),.load 1 false (.t 49)⟩,⟨(some 51),(some (46,false)),.call (.c (.fn F.r23_Compare [] [])) [.t 48,.t 50]⟩,cg 52 46 false (.bin .neq (.t 51) (.c (I 0))),co 53 (.pick (.t 46) (.c (B true)) (.t 52)),cm 54 53,cg 55 54 false (.fadr 1 (.t 6)),⟨(some 56),(some (54,false)),.load 3 true (.t 55)⟩,cg 57 54 false (.fadr 1 (.t 7)),⟨(some 58),(some (54,false)),.load 3 true (.t 57)⟩,⟨(some 59),(some (54,false)),.call (.c (.fn F.r23_number [] [])) [.t 56,.t 58]⟩,cg 60 54 false (.un .not (.t 59)),co 61 (.pick (.t 54) (.c (B true)) (.t 60))]) (.cond (.t 61) (.seq (.ops [4] [co 4 (.mv (.c (B false)))]) (.ret)) (.skip))))) (.ops [2,3,5] [cm 27 5,co 28 (.bin .add (.t 27) (.c (I 1))),cm 5 28]))
def akB:Cmd:=.seq (.ops [2,3] [bx 2 2 (.t 0),bx 3 2 (.t 1),co 4 (.mv (.c (B false)))]) (.seq (.seq (.ops [2,3,21] [fa 8 0 2,ld 9 1 8,fa 10 0 3,ld 11 1 10,b2 12 .neq 9 11,cm 13 12,cg 14 13 false (.fadr 1 (.t 2)),⟨(some 15),(some (13,false)),.load 1 false (.t 14)⟩,cg 16 13 false (.len false (.t 15)),cg 17 13 false (.fadr 1 (.t 3)),⟨(some 18),(some (13,false)),.load 1 false (.t 17)⟩,cg 19 13 false (.len false (.t 18)),cg 20 13 false (.bin .neq (.t 16) (.t 19)),co 21 (.pick (.t 13) (.c (B true)) (.t 20))]) (.cond (.t 21) (.seq (.ops [4] [co 4 (.mv (.c (B false)))]) (.ret)) (.skip))) (.seq (.seq (.ops [2,3,5] [co 5 (.mv (.c (I 0)))]) (.block 0 [] (.loop [2,3,5] [2,3] aiI))) (.seq (.ops [4] [co 4 (.mv (.c (B true)))]) (.ret))))
def ajn:FD:=⟨2,[[]],[.t 4],akB⟩
def ahK:Cmd:=.seq (.ops [1,4,5,7,8,36,37,38,39] [b2 39 .lss 38 37]) (.seq (.cond (.t 39) (.skip) (.exit 1)) (.seq (.block 2 [1,4,5,7,8,36,37,38] (.seq (.ops [1,4,5,7,8,10,36,37,38] [co 40 (.iadrS 4 (.t 36) (.t 38)),la 41 4 40,al 10 [.emp,B false,.emp,I 0],sr 4 (.t 10) (.t 41)]) (.seq (.ops [1,4,5,7,8,10,11,12,36,37,38] [fa 43 1 10,la 44 3 43,cm 45 1,ca 46 F.round_Near [.t 44,.t 45],cm 42 46,co 47 (.ext 0 (.t 42)),co 48 (.ext 1 (.t 42)),al 11 [B false,.emp,I 0],sr 3 (.t 11) (.t 47),cm 12 48]) (.seq (.seq (.ops [1,4,5,7,8,10,11,36,37,38,50] [cm 49 12,co 50 (.bin .neq (.t 49) (.c (I 0)))]) (.cond (.t 50) (.seq (.ops [4,5,6] [co 51 (.build [I 0,.emp] []),co 52 (.build [I 0,.emp] []),sr 2 (.t 4) (.t 51),sr 2 (.t 5) (.t 52),co 6 (.mv (.c (I 9)))]) (.ret)) (.skip))) (.seq (.ops [1,4,5,7,8,10,11,12,13,36,37,38] [fa 54 1 10,la 55 3 54,la 56 3 11,ca 57 F.dyadic_Sub [.t 55,.t 56],cm 53 57,co 58 (.ext 0 (.t 53)),co 59 (.ext 1 (.t 53)),al 13 [B false,.emp,I 0],sr 3 (.t 13) (.t 58),cm 12 59]) (.seq (.seq (.ops [1,4,5,7,8,10,11,13,36,37,38,61] [cm 60 12,co 61 (.bin .neq (.t 60) (.c (I 0)))]) (.cond (.t 61) (.seq (.ops [4,5,6] [co 62 (.build [I 0,.emp] []),co 63 (.build [I 0,.emp] []),sr 2 (.t 4) (.t 62),sr 2 (.t 5) (.t 63),co 6 (.mv (.c (I 9)))]) (.ret)) (.skip))) (.seq (.seq (.ops [1,4,5,7,8,10,11,13,36,37,38,67] [fa 64 1 11,ld 65 1 64,co 66 (.len false (.t 65)),co 67 (.bin .gtr (.t 66) (.c (I 0)))]) (.cond (.t 67) (.ops [1,4,5,7,8,10,13,36,37,38] [cm 68 7,fa 69 0 10,ld 70 1 69,la 71 3 11,ca 72 F.poly_collector_add [.t 68,.t 70,.t 71]]) (.skip))) (.seq (.ops [1,4,5,7,8,10,13,36,37,38,76] [fa 73 1 13,ld 74 1 73,co 75 (.len false (.t 74)),co 76 (.bin .gtr (.t 75) (.c (I 0)))]) (.cond (.t 76) (.ops [1,4,5,7,8,36,37,38] [cm 77 8,fa 78 0 10,ld 79 1 78,la 80 3 13,ca 81 F.poly_collector_add [.t 77,.t 79,.t 80]]) (.skip)))))))))) (.ops [1,4,5,7,8,36,37,38] [co 82 (.bin .add (.t 38) (.c (I 1))),cm 38 82])))
def ajw:Cmd:=.seq (.ops [1,2,4,5] [bx 2 2 (.t 0),al 4 [I 0,.emp],al 5 [I 0,.emp],co 6 (.mv (.c (I 0)))]) (.seq (.block 0 [1,2,4,5] (.seq (.ops [1,2,4,5,14] [la 15 2 2,ca 16 F.poly_Valid [.t 15],co 17 (.un .not (.t 16)),cm 14 17]) (.cond (.t 14) (.seq (.ops [4,5,6] [co 18 (.build [I 0,.emp] []),co 19 (.build [I 0,.emp] []),sr 2 (.t 4) (.t 18),sr 2 (.t 5) (.t 19),co 6 (.mv (.c (I 1)))]) (.ret)) (.seq (.ops [1,2,4,5,20] [cm 21 1,co 22 (.bin .lss (.t 21) (.c (I 8))),cm 23 22,cg 24 23 false (.mv (.t 1)),cg 25 23 false (.bin .gtr (.t 24) (.c (I 512))),co 26 (.pick (.t 23) (.c (B true)) (.t 25)),cm 20 26]) (.cond (.t 20) (.seq (.ops [4,5,6] [co 27 (.build [I 0,.emp] []),co 28 (.build [I 0,.emp] []),sr 2 (.t 4) (.t 27),sr 2 (.t 5) (.t 28),co 6 (.mv (.c (I 2)))]) (.ret)) (.skip)))))) (.seq (.dops [1,2,4,5,7,8] [fa 29 0 2,ld 30 1 29,ca 31 F.poly_empty [.t 30],fa 32 0 2,ld 33 1 32,ca 34 F.poly_empty [.t 33],cm 7 31,cm 8 34] [(2,4)]) (.seq (.seq (.ops [1,4,5,7,8,36,37,38] [fa 35 1 2,ld 36 1 35,co 37 (.len false (.t 36)),co 38 (.mv (.c (I 0)))]) (.block 1 [4,5,7,8] (.loop [1,4,5,7,8,36,37,38] [2,4,5,2248,2272] ahK))) (.seq (.frz [7,8] (.dops [4,5,6] [cm 83 7,nk 84 83,fa 85 0 84,la 86 2 85,cm 87 8,nk 88 87,fa 89 0 88,la 90 2 89,sr 2 (.t 4) (.t 86),sr 2 (.t 5) (.t 90),co 6 (.mv (.c (I 0)))] [(7,8)])) (.ret)))))
def aiJ:FD:=⟨2,[[.o 0 [],.o 5 [.o 2 [],.o 0 [],.o 2 [],.o 0 []]],[.o 0 [],.o 5 [.o 2 [],.o 0 [],.o 2 [],.o 0 []]],[]],[.cell 4 2 true,.cell 5 2 true,.t 6],ajw⟩
def ow:Cmd:=.seq (.seq (.ops [1,2,4,5,7,8,9,37] [cm 33 9,fa 34 1 2,ld 35 1 34,co 36 (.len false (.t 35)),b2 37 .lss 33 36]) (.cond (.t 37) (.skip) (.exit 0))) (.seq (.block 1 [1,2,4,5,7,8,9] (.seq (.ops [1,2,4,5,7,8,9,10] [fa 40 1 2,ld 41 1 40,cm 42 9,co 43 (.iadrS 4 (.t 41) (.t 42)),la 44 4 43,al 10 [.emp,B false,.emp,I 0],sr 4 (.t 10) (.t 44)]) (.seq (.ops [1,2,4,5,7,8,9,10,11,12] [fa 46 1 10,la 47 3 46,cm 48 1,ca 49 F.r03_Near [.t 47,.t 48],cm 45 49,co 50 (.ext 0 (.t 45)),co 51 (.ext 1 (.t 45)),al 11 [B false,.emp,I 0],sr 3 (.t 11) (.t 50),cm 12 51]) (.seq (.seq (.ops [1,2,4,5,7,8,9,10,11,53] [cm 52 12,co 53 (.bin .neq (.t 52) (.c (I 0)))]) (.cond (.t 53) (.seq (.ops [4,5,6] [co 54 (.build [I 0,.emp] []),co 55 (.build [I 0,.emp] []),sr 2 (.t 4) (.t 54),sr 2 (.t 5) (.t 55),co 6 (.mv (.c (I 9)))]) (.ret)) (.skip))) (.seq (.dops [1,2,4,5,7,8,9,10,11,12,13] [fa 57 1 10,la 58 3 57,la 59 3 11,ca 60 F.r02_Neg [.t 59],ca 61 F.r02_Add [.t 58,.t 60],cm 56 61,co 62 (.ext 0 (.t 56)),co 63 (.ext 1 (.t 56)),al 13 [B false,.emp,I 0],sr 3 (.t 13) (.t 62),cm 12 63] [(1,3),(1,8),(2,8),(3,8),(4,8)]) (.seq (.seq (.ops [1,2,4,5,7,8,9,10,11,13,65] [cm 64 12,co 65 (.bin .neq (.t 64) (.c (I 0)))]) (.cond (.t 65) (.seq (.ops [4,5,6] [co 66 (.build [I 0,.emp] []),co 67 (.build [I 0,.emp] []),sr 2 (.t 4) (.t 66),sr 2 (.t 5) (.t 67),co 6 (.mv (.c (I 9)))]) (.ret)) (.skip))) (.seq (.seq (.ops [1,2,4,5,7,8,9,10,11,13,71] [fa 68 1 11,ld 69 1 68,co 70 (.len false (.t 69)),co 71 (.bin .gtr (.t 70) (.c (I 0)))]) (.cond (.t 71) (.ops [1,2,4,5,7,8,9,10,13] [fa 72 1 7,ld 73 1 72,fa 74 0 10,ld 75 1 74,la 76 3 11,co 77 (.build [.emp,B false,.emp,I 0] [(0,1,.t 75),(1,3,.t 76)]),⟨(some 78),none,.buildSl 4 [.emp,B false,.emp,I 0] 1 [(0,.t 77)]⟩,⟨(some 79),none,.app 4 64 (.t 73) (.t 78)⟩,fa 80 1 7,sr 1 (.t 80) (.t 79)]) (.skip))) (.seq (.ops [1,2,4,5,7,8,9,10,13,84] [fa 81 1 13,ld 82 1 81,co 83 (.len false (.t 82)),co 84 (.bin .gtr (.t 83) (.c (I 0)))]) (.cond (.t 84) (.ops [1,2,4,5,7,8,9] [fa 85 1 8,ld 86 1 85,fa 87 0 10,ld 88 1 87,la 89 3 13,co 90 (.build [.emp,B false,.emp,I 0] [(0,1,.t 88),(1,3,.t 89)]),⟨(some 91),none,.buildSl 4 [.emp,B false,.emp,I 0] 1 [(0,.t 90)]⟩,⟨(some 92),none,.app 4 64 (.t 86) (.t 91)⟩,fa 93 1 8,sr 1 (.t 93) (.t 92)]) (.skip)))))))))) (.ops [1,2,4,5,7,8,9] [cm 38 9,co 39 (.bin .add (.t 38) (.c (I 1))),cm 9 39]))
def ajP:Cmd:=.seq (.ops [1,2,4,5] [bx 2 2 (.t 0),al 4 [I 0,.emp],al 5 [I 0,.emp],co 6 (.mv (.c (I 0)))]) (.seq (.seq (.ops [1,2,4,5,16] [la 14 2 2,ca 15 F.r23_Valid [.t 14],co 16 (.un .not (.t 15))]) (.cond (.t 16) (.seq (.ops [4,5,6] [co 17 (.build [I 0,.emp] []),co 18 (.build [I 0,.emp] []),sr 2 (.t 4) (.t 17),sr 2 (.t 5) (.t 18),co 6 (.mv (.c (I 1)))]) (.ret)) (.skip))) (.seq (.seq (.ops [1,2,4,5,24] [cm 19 1,co 20 (.bin .lss (.t 19) (.c (I 8))),cm 21 20,cg 22 21 false (.mv (.t 1)),cg 23 21 false (.bin .gtr (.t 22) (.c (I 512))),co 24 (.pick (.t 21) (.c (B true)) (.t 23))]) (.cond (.t 24) (.seq (.ops [4,5,6] [co 25 (.build [I 0,.emp] []),co 26 (.build [I 0,.emp] []),sr 2 (.t 4) (.t 25),sr 2 (.t 5) (.t 26),co 6 (.mv (.c (I 2)))]) (.ret)) (.skip))) (.seq (.dops [1,2,4,5,7,8] [fa 27 0 2,ld 28 1 27,co 29 (.build [I 0,.emp] [(0,1,.t 28)]),fa 30 0 2,ld 31 1 30,co 32 (.build [I 0,.emp] [(0,1,.t 31)]),al 7 [I 0,.emp],al 8 [I 0,.emp],sr 2 (.t 7) (.t 29),sr 2 (.t 8) (.t 32)] [(1,6),(4,6),(1,7),(4,7),(6,7),(4,8)]) (.seq (.seq (.ops [1,2,4,5,7,8,9] [co 9 (.mv (.c (I 0)))]) (.block 0 [4,5,7,8] (.loop [1,2,4,5,7,8,9] [2,4,5,7,8] ow))) (.seq (.frz [7,8] (.dops [4,5,6] [la 94 2 7,la 95 2 8,sr 2 (.t 4) (.t 94),sr 2 (.t 5) (.t 95),co 6 (.mv (.c (I 0)))] [(1,2)])) (.ret))))))
def aiT:FD:=⟨2,[[.o 0 [],.o 5 [.o 2 [],.o 0 [],.o 2 [],.o 0 []]],[.o 0 [],.o 5 [.o 2 [],.o 0 [],.o 2 [],.o 0 []]],[]],[.cell 4 2 true,.cell 5 2 true,.t 6],ajP⟩
def alT:Cmd:=.seq (.ops [1,3,4,6] [bx 4 2 (.t 0),bx 6 2 (.t 2),co 8 (.mv (.c (B false)))]) (.seq (.ops [8] [cm 9 1,cm 10 3,b2 11 .eql 9 10,cm 12 11,⟨(some 13),(some (12,true)),.load 2 true (.t 4)⟩,⟨(some 14),(some (12,true)),.load 2 true (.t 6)⟩,⟨(some 15),(some (12,true)),.call (.c (.fn F.r23_Same [] [])) [.t 13,.t 14]⟩,co 16 (.pick (.t 12) (.t 15) (.c (B false))),cm 17 16,cg 18 17 true (.mv (.t 1)),cg 19 17 true (.bin .eql (.t 18) (.c (I 0))),cg 20 17 true (.mv (.t 19)),⟨(some 21),(some (20,false)),.load 2 true (.t 4)⟩,⟨(some 22),(some (20,false)),.call (.c (.fn F.l23_zero [] [])) [.t 21]⟩,cg 23 17 true (.pick (.t 20) (.c (B true)) (.t 22)),co 24 (.pick (.t 17) (.t 23) (.c (B false))),cm 8 24]) (.ret))
def akt:FD:=⟨4,[[]],[.t 8],alT⟩
def aiK:Cmd:=.seq (.ops [1,5,6,8,38,39,40,41] [b2 41 .lss 40 39]) (.seq (.cond (.t 41) (.skip) (.exit 1)) (.seq (.block 2 [1,5,6,8,38,39,40] (.seq (.ops [1,5,6,8,10,38,39,40] [co 42 (.iadrS 4 (.t 38) (.t 40)),la 43 4 42,al 10 [.emp,B false,.emp,I 0],sr 4 (.t 10) (.t 43)]) (.seq (.dops [1,5,6,8,10,11,12,38,39,40] [fa 45 1 10,la 46 3 45,la 47 3 5,fa 48 0 10,ld 49 1 48,cm 50 1,co 51 (.iadrS 1 (.t 49) (.t 50)),ld 52 1 51,ca 53 F.poly_times [.t 46,.t 47,.t 52],cm 44 53,co 54 (.ext 0 (.t 44)),co 55 (.ext 1 (.t 44)),al 11 [B false,.emp,I 0],sr 3 (.t 11) (.t 54),cm 12 55] [(1,12),(2,12),(4,12),(7,12),(8,12)]) (.seq (.seq (.ops [1,5,6,8,10,11,38,39,40,57] [cm 56 12,co 57 (.un .not (.t 56))]) (.cond (.t 57) (.seq (.ops [6,7] [co 58 (.build [I 0,.emp] []),sr 2 (.t 6) (.t 58),co 7 (.mv (.c (I 9)))]) (.ret)) (.skip))) (.seq (.seq (.ops [1,5,6,8,10,11,38,39,40,62] [fa 59 1 11,ld 60 1 59,co 61 (.len false (.t 60)),co 62 (.bin .eql (.t 61) (.c (I 0)))]) (.cond (.t 62) (.exit 2) (.skip))) (.seq (.ops [1,5,6,8,11,13,38,39,40] [fa 63 0 10,ld 64 1 63,ca 65 F.slices_Clone_int_int_ [.t 64],cm 13 65]) (.seq (.ops [1,5,6,8,11,13,38,39,40] [cm 66 13,cm 67 1,co 68 (.iadrS 1 (.t 66) (.t 67)),sr 1 (.t 68) (.c (I 0))]) (.ops [1,5,6,8,38,39,40] [cm 69 8,cm 70 13,la 71 3 11,ca 72 F.poly_collector_add [.t 69,.t 70,.t 71]])))))))) (.ops [1,5,6,8,38,39,40] [co 73 (.bin .add (.t 40) (.c (I 1))),cm 40 73])))
def ajE:Cmd:=.seq (.ops [1,3,5,6] [bx 3 2 (.t 0),bx 5 3 (.t 2),al 6 [I 0,.emp],co 7 (.mv (.c (I 0)))]) (.seq (.block 0 [1,3,5,6] (.seq (.ops [1,3,5,6,14] [la 15 2 3,ca 16 F.poly_Valid [.t 15],co 17 (.un .not (.t 16)),cm 18 17,⟨(some 19),(some (18,false)),.load 3 true (.t 5)⟩,⟨(some 20),(some (18,false)),.call (.c (.fn F.dyadic_Valid [] [])) [.t 19]⟩,cg 21 18 false (.un .not (.t 20)),co 22 (.pick (.t 18) (.c (B true)) (.t 21)),cm 14 22]) (.cond (.t 14) (.seq (.ops [6,7] [co 23 (.build [I 0,.emp] []),sr 2 (.t 6) (.t 23),co 7 (.mv (.c (I 1)))]) (.ret)) (.seq (.ops [1,3,5,6,24] [cm 25 1,co 26 (.bin .lss (.t 25) (.c (I 0))),cm 27 26,cg 28 27 false (.mv (.t 1)),cg 29 27 false (.fadr 0 (.t 3)),⟨(some 30),(some (27,false)),.load 1 false (.t 29)⟩,cg 31 27 false (.bin .geq (.t 28) (.t 30)),co 32 (.pick (.t 27) (.c (B true)) (.t 31)),cm 24 32]) (.cond (.t 24) (.seq (.ops [6,7] [co 33 (.build [I 0,.emp] []),sr 2 (.t 6) (.t 33),co 7 (.mv (.c (I 2)))]) (.ret)) (.skip)))))) (.seq (.ops [1,3,5,6,8] [fa 34 0 3,ld 35 1 34,ca 36 F.poly_empty [.t 35],cm 8 36]) (.seq (.seq (.ops [1,5,6,8,38,39,40] [fa 37 1 3,ld 38 1 37,co 39 (.len false (.t 38)),co 40 (.mv (.c (I 0)))]) (.block 1 [6,8] (.loop [1,5,6,8,38,39,40] [3,5,6,2288] aiK))) (.seq (.ops [6,7] [cm 74 8,ca 75 F.poly_collector_done [.t 74],co 76 (.ext 0 (.t 75)),co 77 (.ext 1 (.t 75)),sr 2 (.t 6) (.t 76),cm 7 77]) (.ret)))))
def aiP:FD:=⟨3,[[.o 0 [],.o 5 [.o 2 [],.o 0 [],.o 2 [],.o 0 []]],[]],[.cell 6 2 true,.t 7],ajE⟩
def aii:Cmd:=.seq (.seq (.ops [1,3,5,6,8,9,35] [cm 31 9,fa 32 1 3,ld 33 1 32,co 34 (.len false (.t 33)),b2 35 .lss 31 34]) (.cond (.t 35) (.skip) (.exit 0))) (.seq (.block 1 [1,3,5,6,8,9] (.seq (.dops [1,3,5,6,8,9,10,11] [fa 39 1 3,ld 40 1 39,cm 41 9,co 42 (.iadrS 4 (.t 40) (.t 41)),fa 43 1 42,la 44 3 43,la 45 3 5,fa 46 1 3,ld 47 1 46,cm 48 9,co 49 (.iadrS 4 (.t 47) (.t 48)),fa 50 0 49,ld 51 1 50,cm 52 1,co 53 (.iadrS 1 (.t 51) (.t 52)),ld 54 1 53,ca 55 F.r23_times [.t 44,.t 45,.t 54],cm 38 55,co 56 (.ext 0 (.t 38)),co 57 (.ext 1 (.t 38)),al 10 [B false,.emp,I 0],sr 3 (.t 10) (.t 56),cm 11 57] [(1,20),(5,20),(6,20),(8,20),(12,20),(15,20),(16,20)]) (.seq (.seq (.ops [1,3,5,6,8,9,10,59] [cm 58 11,co 59 (.un .not (.t 58))]) (.cond (.t 59) (.seq (.ops [6,7] [co 60 (.build [I 0,.emp] []),sr 2 (.t 6) (.t 60),co 7 (.mv (.c (I 9)))]) (.ret)) (.skip))) (.seq (.seq (.ops [1,3,5,6,8,9,10,64] [fa 61 1 10,ld 62 1 61,co 63 (.len false (.t 62)),co 64 (.bin .eql (.t 63) (.c (I 0)))]) (.cond (.t 64) (.exit 1) (.skip))) (.seq (.ops [1,3,5,6,8,9,10,12] [⟨(some 65),none,.buildSl 1 [I 0] 0 []⟩,fa 66 1 3,ld 67 1 66,cm 68 9,co 69 (.iadrS 4 (.t 67) (.t 68)),fa 70 0 69,ld 71 1 70,⟨(some 72),none,.app 1 8 (.t 65) (.t 71)⟩,cm 12 72]) (.seq (.ops [1,3,5,6,8,9,10,12] [cm 73 12,cm 74 1,co 75 (.iadrS 1 (.t 73) (.t 74)),sr 1 (.t 75) (.c (I 0))]) (.seq (.ops [1,3,5,6,8,9,11] [cm 77 8,cm 78 12,la 79 3 10,co 80 (.build [.emp,B false,.emp,I 0] [(0,1,.t 78),(1,3,.t 79)]),ca 81 F.r23_Collect [.t 77,.t 80],cm 76 81,co 82 (.ext 0 (.t 76)),co 83 (.ext 1 (.t 76)),cm 8 82,cm 11 83]) (.seq (.ops [1,3,5,6,8,9,85] [cm 84 11,co 85 (.un .not (.t 84))]) (.cond (.t 85) (.seq (.ops [6,7] [co 86 (.build [I 0,.emp] []),sr 2 (.t 6) (.t 86),co 7 (.mv (.c (I 9)))]) (.ret)) (.skip)))))))))) (.ops [1,3,5,6,8,9] [cm 36 9,co 37 (.bin .add (.t 36) (.c (I 1))),cm 9 37]))
def aj2:Cmd:=.seq (.ops [1,3,5,6] [bx 3 2 (.t 0),bx 5 3 (.t 2),al 6 [I 0,.emp],co 7 (.mv (.c (I 0)))]) (.seq (.seq (.ops [1,3,5,6,20] [la 13 2 3,ca 14 F.r23_Valid [.t 13],co 15 (.un .not (.t 14)),cm 16 15,⟨(some 17),(some (16,false)),.load 3 true (.t 5)⟩,⟨(some 18),(some (16,false)),.call (.c (.fn F.r02_Valid [] [])) [.t 17]⟩,cg 19 16 false (.un .not (.t 18)),co 20 (.pick (.t 16) (.c (B true)) (.t 19))]) (.cond (.t 20) (.seq (.ops [6,7] [co 21 (.build [I 0,.emp] []),sr 2 (.t 6) (.t 21),co 7 (.mv (.c (I 1)))]) (.ret)) (.skip))) (.seq (.seq (.ops [1,3,5,6,29] [cm 22 1,co 23 (.bin .lss (.t 22) (.c (I 0))),cm 24 23,cg 25 24 false (.mv (.t 1)),cg 26 24 false (.fadr 0 (.t 3)),⟨(some 27),(some (24,false)),.load 1 false (.t 26)⟩,cg 28 24 false (.bin .geq (.t 25) (.t 27)),co 29 (.pick (.t 24) (.c (B true)) (.t 28))]) (.cond (.t 29) (.seq (.ops [6,7] [co 30 (.build [I 0,.emp] []),sr 2 (.t 6) (.t 30),co 7 (.mv (.c (I 2)))]) (.ret)) (.skip))) (.seq (.ops [1,3,5,6,8] [co 8 (.mv (.c .emp))]) (.seq (.seq (.ops [1,3,5,6,8,9] [co 9 (.mv (.c (I 0)))]) (.block 0 [3,6,8] (.loop [1,3,5,6,8,9] [3,5,6] aii))) (.seq (.ops [6,7] [fa 87 0 3,ld 88 1 87,cm 89 8,co 90 (.build [I 0,.emp] [(0,1,.t 88),(1,1,.t 89)]),sr 2 (.t 6) (.t 90),co 7 (.mv (.c (I 0)))]) (.ret))))))
def ai1:FD:=⟨3,[[.o 0 [],.o 5 [.o 2 [],.o 0 [],.o 2 [],.o 0 []]],[]],[.cell 6 2 true,.t 7],aj2⟩
def bX:Cmd:=.seq (.ops [1,20,21,22,23] [b2 23 .lss 22 21]) (.seq (.cond (.t 23) (.skip) (.exit 0)) (.seq (.block 1 [1,20,21,22] (.seq (.ops [1,3,4,20,21,22] [cm 24 22,co 25 (.iadrS 4 (.t 20) (.t 22)),la 26 4 25,al 4 [.emp,B false,.emp,I 0],cm 3 24,sr 4 (.t 4) (.t 26)]) (.seq (.seq (.ops [1,3,4,20,21,22,45] [fa 27 0 4,ld 28 1 27,co 29 (.len false (.t 28)),fa 30 0 1,ld 31 1 30,b2 32 .neq 29 31,cm 33 32,cg 34 33 false (.fadr 1 (.t 4)),⟨(some 35),(some (33,false)),.load 3 true (.t 34)⟩,⟨(some 36),(some (33,false)),.call (.c (.fn F.dyadic_Valid [] [])) [.t 35]⟩,cg 37 33 false (.un .not (.t 36)),co 38 (.pick (.t 33) (.c (B true)) (.t 37)),cm 39 38,cg 40 39 false (.fadr 1 (.t 4)),cg 41 39 false (.fadr 1 (.t 40)),⟨(some 42),(some (39,false)),.load 1 false (.t 41)⟩,cg 43 39 false (.len false (.t 42)),cg 44 39 false (.bin .eql (.t 43) (.c (I 0))),co 45 (.pick (.t 39) (.c (B true)) (.t 44))]) (.cond (.t 45) (.seq (.ops [2] [co 2 (.mv (.c (B false)))]) (.ret)) (.skip))) (.seq (.seq (.ops [1,3,4,20,21,22,54] [fa 46 0 4,ld 47 1 46,ca 48 F.slices_ContainsFunc_int_int_ [.t 47,.c (.fn F.poly_Valid_1 [] [])],cm 49 48,cg 50 49 false (.fadr 0 (.t 4)),⟨(some 51),(some (49,false)),.load 1 false (.t 50)⟩,⟨(some 52),(some (49,false)),.call (.c (.fn F.poly_degree [] [])) [.t 51]⟩,cg 53 49 false (.bin .gtr (.t 52) (.c (I 32))),co 54 (.pick (.t 49) (.c (B true)) (.t 53))]) (.cond (.t 54) (.seq (.ops [2] [co 2 (.mv (.c (B false)))]) (.ret)) (.skip))) (.seq (.dops [1,20,21,22,69] [cm 55 3,co 56 (.bin .gtr (.t 55) (.c (I 0))),cm 57 56,cg 58 57 true (.fadr 1 (.t 1)),⟨(some 59),(some (57,true)),.load 1 false (.t 58)⟩,cg 60 57 true (.mv (.t 3)),cg 61 57 true (.bin .sub (.t 60) (.c (I 1))),cg 62 57 true (.iadrS 4 (.t 59) (.t 61)),cg 63 57 true (.fadr 0 (.t 62)),⟨(some 64),(some (57,true)),.load 1 false (.t 63)⟩,cg 65 57 true (.fadr 0 (.t 4)),⟨(some 66),(some (57,true)),.load 1 false (.t 65)⟩,⟨(some 67),(some (57,true)),.call (.c (.fn F.poly_order [] [])) [.t 64,.t 66]⟩,cg 68 57 true (.bin .geq (.t 67) (.c (I 0))),co 69 (.pick (.t 57) (.t 68) (.c (B false)))] []) (.cond (.t 69) (.seq (.ops [2] [co 2 (.mv (.c (B false)))]) (.ret)) (.skip))))))) (.ops [1,20,21,22] [co 70 (.bin .add (.t 22) (.c (I 1))),cm 22 70])))
def jm:Cmd:=.seq (.ops [1] [bx 1 2 (.t 0),co 2 (.mv (.c (B false)))]) (.seq (.seq (.ops [1,18] [fa 5 0 1,ld 6 1 5,co 7 (.bin .lss (.t 6) (.c (I 0))),cm 8 7,cg 9 8 false (.fadr 0 (.t 1)),⟨(some 10),(some (8,false)),.load 1 false (.t 9)⟩,cg 11 8 false (.bin .gtr (.t 10) (.c (I 8))),co 12 (.pick (.t 8) (.c (B true)) (.t 11)),cm 13 12,cg 14 13 false (.fadr 1 (.t 1)),⟨(some 15),(some (13,false)),.load 1 false (.t 14)⟩,cg 16 13 false (.len false (.t 15)),cg 17 13 false (.bin .gtr (.t 16) (.c (I 500))),co 18 (.pick (.t 13) (.c (B true)) (.t 17))]) (.cond (.t 18) (.seq (.ops [2] [co 2 (.mv (.c (B false)))]) (.ret)) (.skip))) (.seq (.seq (.ops [1,20,21,22] [fa 19 1 1,ld 20 1 19,co 21 (.len false (.t 20)),co 22 (.mv (.c (I 0)))]) (.block 0 [] (.loop [1,20,21,22] [1] bX))) (.seq (.ops [2] [co 2 (.mv (.c (B true)))]) (.ret))))
def ez:FD:=⟨1,[[]],[.t 2],jm⟩
def mX:Cmd:=.seq (.ops [1] [bx 1 2 (.t 0),co 2 (.mv (.c (I 0)))]) (.seq (.seq (.ops [1,11] [la 3 2 1,ca 4 F.poly_Valid [.t 3],co 5 (.un .not (.t 4)),cm 6 5,cg 7 6 false (.fadr 1 (.t 1)),⟨(some 8),(some (6,false)),.load 1 false (.t 7)⟩,cg 9 6 false (.len false (.t 8)),cg 10 6 false (.bin .eql (.t 9) (.c (I 0))),co 11 (.pick (.t 6) (.c (B true)) (.t 10))]) (.cond (.t 11) (.seq (.ops [2] [co 2 (.mv (.c (I (-1))))]) (.ret)) (.skip))) (.seq (.ops [2] [fa 12 1 1,ld 13 1 12,fa 14 1 1,ld 15 1 14,co 16 (.len false (.t 15)),co 17 (.bin .sub (.t 16) (.c (I 1))),co 18 (.iadrS 4 (.t 13) (.t 17)),fa 19 0 18,ld 20 1 19,ca 21 F.poly_degree [.t 20],cm 2 21]) (.ret)))
def gB:FD:=⟨1,[[]],[.t 2],mX⟩
def BZ:Cmd:=.seq (.ops [0,1,4] [al 4 [I 0,.emp]]) (.seq (.ops [0,1,4,5] [cm 6 0,⟨(some 7),none,.mkSl 1 [I 0] 8 (.t 6) (.t 6)⟩,cm 5 7]) (.seq (.ops [0,4,5] [cm 8 5,cm 9 1,co 10 (.iadrS 1 (.t 8) (.t 9)),sr 1 (.t 10) (.c (I 1))]) (.seq (.ops [4] [cm 11 0,cm 12 5,⟨(some 13),none,.buildSl 1 [U 0] 1 [(0,.c (U 1))]⟩,co 14 (.build [B false,.emp,I 0] [(1,1,.t 13)]),co 15 (.build [.emp,B false,.emp,I 0] [(0,1,.t 12),(1,3,.t 14)]),⟨(some 16),none,.buildSl 4 [.emp,B false,.emp,I 0] 1 [(0,.t 15)]⟩,co 17 (.build [I 0,.emp] [(0,1,.t 11),(1,1,.t 16)]),sr 2 (.t 4) (.t 17)]) (.ret))))
def so:FD:=⟨2,[[.o 0 [],.o 5 [.o 2 [],.o 0 [],.o 2 [],.o 0 []]]],[.cell 4 2 true],BZ⟩
def jS:Cmd:=.seq (.ops [0,1] [co 4 (.mv (.c (B false)))]) (.seq (.ops [4] [cm 5 0,cm 6 1,ca 7 F.slices_IndexFunc_api_Poly_api_Poly_ [.t 5,.t 6],co 8 (.bin .geq (.t 7) (.c (I 0))),cm 4 8]) (.ret))
def cw:FD:=⟨2,[[]],[.t 4],jS⟩
def mY:Cmd:=.seq (.ops [1] [bx 1 2 (.t 0),co 2 (.mv (.c (B false)))]) (.seq (.ops [2] [fa 3 1 1,ld 4 1 3,co 5 (.len false (.t 4)),co 6 (.bin .gtr (.t 5) (.c (I 40))),cm 7 6,cg 8 7 true (.fadr 1 (.t 1)),⟨(some 9),(some (7,true)),.load 1 false (.t 8)⟩,cg 10 7 true (.len false (.t 9)),cg 11 7 true (.bin .leq (.t 10) (.c (I 500))),co 12 (.pick (.t 7) (.t 11) (.c (B false))),cm 13 12,cg 14 13 false (.fadr 1 (.t 1)),⟨(some 15),(some (13,false)),.load 1 false (.t 14)⟩,⟨(some 16),(some (13,false)),.call (.c (.fn F.slices_ContainsFunc_api_Term_api_Term_ [] [])) [.t 15,.c (.fn F.l23_great_1_1 [] [])]⟩,co 17 (.pick (.t 13) (.c (B true)) (.t 16)),cm 2 17]) (.ret))
def gC:FD:=⟨1,[[]],[.t 2],mY⟩
def jT:Cmd:=.seq (.ops [0,1] [co 4 (.mv (.c (B false)))]) (.seq (.ops [4] [cm 5 0,cm 6 1,ca 7 F.slices_IndexFunc_api_Term_api_Term_ [.t 5,.t 6],co 8 (.bin .geq (.t 7) (.c (I 0))),cm 4 8]) (.ret))
def cx:FD:=⟨2,[[]],[.t 4],jT⟩
def oD:Cmd:=.seq (.ops [1] [bx 1 4 (.t 0),co 2 (.mv (.c (B false)))]) (.seq (.ops [2] [fa 3 1 1,fa 4 1 3,ld 5 1 4,co 6 (.len false (.t 5)),co 7 (.bin .gtr (.t 6) (.c (I 10))),cm 8 7,cg 9 8 false (.fadr 0 (.t 1)),⟨(some 10),(some (8,false)),.load 1 false (.t 9)⟩,cg 11 8 false (.len false (.t 10)),cg 12 8 false (.bin .gtr (.t 11) (.c (I 20))),co 13 (.pick (.t 8) (.c (B true)) (.t 12)),cm 2 13]) (.ret))
def gP:FD:=⟨1,[[]],[.t 2],oD⟩
def lI:Cmd:=.seq (.ops [0,1] [co 4 (.mv (.c (B false)))]) (.seq (.ops [4] [cm 5 0,cm 6 1,ca 7 F.slices_IndexFunc_string_string_ [.t 5,.t 6],co 8 (.bin .geq (.t 7) (.c (I 0))),cm 4 8]) (.ret))
def fg:FD:=⟨2,[[]],[.t 4],lI⟩
def DC:Cmd:=.seq (.ops [0] [co 2 (.mv (.c (B false)))]) (.seq (.ops [2] [cm 3 0,ca 4 F.lex_Name [.t 3],co 5 (.un .not (.t 4)),cm 2 5]) (.ret))
def tr:FD:=⟨1,[[]],[.t 2],DC⟩
def Kt:Cmd:=.seq (.ops [0] [co 2 (.mv (.c (B false)))]) (.seq (.ops [2] [cm 3 0,ca 4 F.lex_word [.t 3],cm 5 4,cg 6 5 true (.mv (.t 0)),cg 7 5 true (.len true (.t 6)),cg 8 5 true (.bin .leq (.t 7) (.c (I 20))),co 9 (.pick (.t 5) (.t 8) (.c (B false))),cm 10 9,cg 11 10 true (.mv (.t 0)),⟨(some 12),(some (10,true)),.call (.c (.fn F.lex_Keyword [] [])) [.t 11]⟩,cg 13 10 true (.un .not (.t 12)),co 14 (.pick (.t 10) (.t 13) (.c (B false))),cm 2 14]) (.ret))
def yG:FD:=⟨1,[[]],[.t 2],Kt⟩
def B0:Cmd:=.seq (.ops [0] [co 2 (.mv (.c (.v (.string ⟨#[]⟩))))]) (.seq (.ops [2] [cm 3 0,ca 4 F.internal_strconv_Itoa [.t 3],cm 2 4]) (.ret))
def akQ:FD:=⟨1,[[]],[.t 2],B0⟩
def ait:Cmd:=.seq (.seq (.ops [1,3,22] [cm 18 3,fa 19 1 1,ld 20 1 19,co 21 (.len false (.t 20)),b2 22 .lss 18 21]) (.cond (.t 22) (.skip) (.exit 0))) (.seq (.block 1 [1,3] (.seq (.dops [1,3,54] [fa 25 0 1,ld 26 1 25,fa 27 1 1,ld 28 1 27,cm 29 3,co 30 (.iadrS 4 (.t 28) (.t 29)),la 31 4 30,ca 32 F.r23_term [.t 26,.t 31],co 33 (.un .not (.t 32)),cm 34 33,cg 35 34 false (.mv (.t 3)),cg 36 34 false (.bin .gtr (.t 35) (.c (I 0))),cg 37 34 false (.mv (.t 36)),cg 38 37 true (.fadr 1 (.t 1)),⟨(some 39),(some (37,true)),.load 1 false (.t 38)⟩,cg 40 37 true (.mv (.t 3)),cg 41 37 true (.bin .sub (.t 40) (.c (I 1))),cg 42 37 true (.iadrS 4 (.t 39) (.t 41)),cg 43 37 true (.fadr 0 (.t 42)),⟨(some 44),(some (37,true)),.load 1 false (.t 43)⟩,cg 45 37 true (.fadr 1 (.t 1)),⟨(some 46),(some (37,true)),.load 1 false (.t 45)⟩,cg 47 37 true (.mv (.t 3)),cg 48 37 true (.iadrS 4 (.t 46) (.t 47)),cg 49 37 true (.fadr 0 (.t 48)),⟨(some 50),(some (37,true)),.load 1 false (.t 49)⟩,⟨(some 51),(some (37,true)),.call (.c (.fn F.r23_Compare [] [])) [.t 44,.t 50]⟩,cg 52 37 true (.bin .geq (.t 51) (.c (I 0))),cg 53 34 false (.pick (.t 37) (.t 52) (.c (B false))),co 54 (.pick (.t 34) (.c (B true)) (.t 53))] []) (.cond (.t 54) (.seq (.ops [2] [co 2 (.mv (.c (B false)))]) (.ret)) (.skip)))) (.ops [1,3] [cm 23 3,co 24 (.bin .add (.t 23) (.c (I 1))),cm 3 24]))
def ajo:Cmd:=.seq (.ops [1] [bx 1 2 (.t 0),co 2 (.mv (.c (B false)))]) (.seq (.seq (.ops [1,17] [fa 4 0 1,ld 5 1 4,co 6 (.bin .lss (.t 5) (.c (I 0))),cm 7 6,cg 8 7 false (.fadr 0 (.t 1)),⟨(some 9),(some (7,false)),.load 1 false (.t 8)⟩,cg 10 7 false (.bin .gtr (.t 9) (.c (I 8))),co 11 (.pick (.t 7) (.c (B true)) (.t 10)),cm 12 11,cg 13 12 false (.fadr 1 (.t 1)),⟨(some 14),(some (12,false)),.load 1 false (.t 13)⟩,cg 15 12 false (.len false (.t 14)),cg 16 12 false (.bin .gtr (.t 15) (.c (I 500))),co 17 (.pick (.t 12) (.c (B true)) (.t 16))]) (.cond (.t 17) (.seq (.ops [2] [co 2 (.mv (.c (B false)))]) (.ret)) (.skip))) (.seq (.seq (.ops [1,3] [co 3 (.mv (.c (I 0)))]) (.block 0 [] (.loop [1,3] [1] ait))) (.seq (.ops [2] [co 2 (.mv (.c (B true)))]) (.ret))))
def aiC:FD:=⟨1,[[]],[.t 2],ajo⟩
def wO:Cmd:=.seq (.ops [0] [co 2 (.mv (.c (.v (.pointer none))))]) (.seq (.ops [2] [cm 3 0,co 4 (.build [I 0,.emp] [(0,1,.t 3)]),co 5 (.build [I 0,.emp,I 0] [(0,2,.t 4)]),bx 6 3 (.t 5),cm 2 6]) (.ret))
def mZ:FD:=⟨1,[[]],[.t 2],wO⟩
def rB:Cmd:=.seq (.ops [0,2] [al 2 [B false,.emp,I 0]]) (.seq (.ops [0,2,3] [cm 4 0,co 5 (.cv .u64 (.t 4)),cm 3 5]) (.seq (.seq (.ops [0,2,3,7] [cm 6 0,co 7 (.bin .lss (.t 6) (.c (I 0)))]) (.cond (.t 7) (.ops [0,2,3] [cm 8 3,co 9 (.un .neg (.t 8)),cm 3 9]) (.skip))) (.seq (.ops [2] [cm 10 0,co 11 (.bin .lss (.t 10) (.c (I 0))),cm 12 3,co 13 (.cv .u32 (.t 12)),cm 14 3,co 15 (.bin .shr (.t 14) (.c (W 32))),co 16 (.cv .u32 (.t 15)),⟨(some 17),none,.buildSl 1 [U 0] 2 [(0,.t 13),(1,.t 16)]⟩,ca 18 F.dyadic_canonical [.t 11,.t 17,.c (I 0)],sr 3 (.t 2) (.t 18)]) (.ret))))
def kB:FD:=⟨1,[[.o 0 [],.o 2 [],.o 0 []]],[.cell 2 3 true],rB⟩
def mu:Cmd:=.seq (.ops [0] [co 2 (.mv (.c .emp))]) (.seq (.seq (.ops [0,4] [cm 3 0,co 4 (.nilq false (.t 3))]) (.cond (.t 4) (.seq (.ops [2] [co 2 (.mv (.c .emp))]) (.ret)) (.skip))) (.seq (.ops [2] [⟨(some 5),none,.buildSl 1 [I 0] 0 []⟩,cm 6 0,⟨(some 7),none,.app 1 8 (.t 5) (.t 6)⟩,cm 2 7]) (.ret)))
def dY:FD:=⟨1,[[]],[.t 2],mu⟩
def dZ:Cmd:=.seq (.ops [0,1,5] [bx 5 3 (.t 2)]) (.seq (.seq (.ops [0,1,5,14] [cm 10 0,nk 11 10,fa 12 2 11,ld 13 1 12,co 14 (.bin .neq (.t 13) (.c (I 0)))]) (.cond (.t 14) (.ret) (.skip))) (.seq (.ops [0,1,5,6,7] [cm 16 0,nk 17 16,fa 18 0 17,fa 19 1 18,ld 20 1 19,cm 21 1,ca 22 F.slices_BinarySearchFunc_api_Term_api_Term_Sint_ [.t 20,.t 21,.c (.fn F.poly_collector_add_1 [] [])],cm 15 22,co 23 (.ext 0 (.t 15)),co 24 (.ext 1 (.t 15)),cm 6 23,cm 7 24]) (.seq (.seq (.ops [0,1,5,6,26] [cm 25 7,co 26 (.un .not (.t 25))]) (.cond (.t 26) (.seq (.dops [] [cm 27 0,cm 28 0,nk 29 28,fa 30 0 29,fa 31 1 30,ld 32 1 31,cm 33 6,cm 34 1,⟨(some 35),none,.callC (.c (.fn F.slices_Clone_int_int_ [] [])) [.t 34]⟩,la 36 3 5,ca 37 F.poly_copied [.t 36],co 38 (.build [.emp,B false,.emp,I 0] [(0,1,.t 35),(1,3,.t 37)]),⟨(some 39),none,.buildSl 4 [.emp,B false,.emp,I 0] 1 [(0,.t 38)]⟩,ca 40 F.slices_Insert_api_Term_api_Term_ [.t 32,.t 33,.t 39],nk 41 27,fa 42 0 41,fa 43 1 42,sr 1 (.t 43) (.t 40)] [(1000013,33),(5,8),(8,9),(5,10),(5,12)]) (.ret)) (.skip))) (.seq (.dops [0,6,8,9] [cm 45 0,nk 46 45,fa 47 0 46,fa 48 1 47,ld 49 1 48,cm 50 6,co 51 (.iadrS 4 (.t 49) (.t 50)),fa 52 1 51,la 53 3 52,la 54 3 5,ca 55 F.dyadic_Add [.t 53,.t 54],cm 44 55,co 56 (.ext 0 (.t 44)),co 57 (.ext 1 (.t 44)),al 8 [B false,.emp,I 0],sr 3 (.t 8) (.t 56),cm 9 57] [(4,14),(8,14),(9,14),(10,14)]) (.block 0 [] (.seq (.ops [0,6,8,67] [cm 68 9,co 69 (.bin .neq (.t 68) (.c (I 0))),cm 67 69]) (.cond (.t 67) (.ops [] [cm 70 0,nk 71 70,fa 72 2 71,sr 1 (.t 72) (.c (I 9))]) (.seq (.ops [0,6,8,73] [fa 74 1 8,ld 75 1 74,co 76 (.len false (.t 75)),co 77 (.bin .eql (.t 76) (.c (I 0))),cm 73 77]) (.cond (.t 73) (.ops [] [cm 78 0,cm 79 0,nk 80 79,fa 81 0 80,fa 82 1 81,⟨(some 83),none,.take (.t 82)⟩,cm 84 6,cm 85 6,co 86 (.bin .add (.t 85) (.c (I 1))),ca 87 F.slices_Delete_api_Term_api_Term_ [.t 83,.t 84,.t 86],nk 88 78,fa 89 0 88,fa 90 1 89,sr 1 (.t 90) (.t 87)]) (.dops [] [cm 58 0,nk 59 58,fa 60 0 59,fa 61 1 60,ld 62 1 61,cm 63 6,la 64 3 8,co 65 (.iadrS 4 (.t 62) (.t 63)),fa 66 1 65,sr 3 (.t 66) (.t 64)] []))))))))))
def ck:FD:=⟨3,[],[],dZ⟩
def dP:Cmd:=.seq (.ops [0,2] [al 2 [I 0,.emp],co 3 (.mv (.c (I 0)))]) (.seq (.block 0 [0,2] (.seq (.ops [0,2,4] [cm 5 0,nk 6 5,fa 7 2 6,ld 8 1 7,co 9 (.bin .neq (.t 8) (.c (I 0))),cm 4 9]) (.cond (.t 4) (.seq (.dops [2,3] [co 10 (.build [I 0,.emp] []),cm 11 0,nk 12 11,fa 13 2 12,ld 14 1 13,sr 2 (.t 2) (.t 10),cm 3 14] [(4,5)]) (.ret)) (.seq (.ops [0,2,15] [cm 16 0,nk 17 16,fa 18 0 17,fa 19 1 18,ld 20 1 19,co 21 (.len false (.t 20)),co 22 (.bin .gtr (.t 21) (.c (I 500))),cm 15 22]) (.cond (.t 15) (.seq (.ops [2,3] [co 23 (.build [I 0,.emp] []),sr 2 (.t 2) (.t 23),co 3 (.mv (.c (I 5)))]) (.ret)) (.skip)))))) (.seq (.ops [2,3] [cm 24 0,nk 25 24,fa 26 0 25,la 27 2 26,sr 2 (.t 2) (.t 27),co 3 (.mv (.c (I 0)))]) (.ret)))
def bY:FD:=⟨1,[[.o 0 [],.o 5 [.o 2 [],.o 0 [],.o 2 [],.o 0 []]],[]],[.cell 2 2 true,.t 3],dP⟩
def pT:Cmd:=.seq (.ops [2,3] [bx 2 2 (.t 0),bx 3 2 (.t 1),co 4 (.mv (.c (B false)))]) (.seq (.ops [4] [la 5 2 2,ca 6 F.poly_Valid [.t 5],cm 7 6,⟨(some 8),(some (7,true)),.load 2 true (.t 3)⟩,⟨(some 9),(some (7,true)),.call (.c (.fn F.poly_Valid [] [])) [.t 8]⟩,co 10 (.pick (.t 7) (.t 9) (.c (B false))),cm 11 10,cg 12 11 true (.fadr 0 (.t 2)),⟨(some 13),(some (11,true)),.load 1 false (.t 12)⟩,cg 14 11 true (.fadr 0 (.t 3)),⟨(some 15),(some (11,true)),.load 1 false (.t 14)⟩,cg 16 11 true (.bin .eql (.t 13) (.t 15)),co 17 (.pick (.t 11) (.t 16) (.c (B false))),cm 4 17]) (.ret))
def jn:FD:=⟨2,[[]],[.t 4],pT⟩
def cS:Cmd:=.seq (.ops [6,25,26,27,28] [b2 28 .lss 27 26]) (.seq (.cond (.t 28) (.skip) (.exit 2)) (.seq (.block 3 [6,25,26,27] (.seq (.ops [6,8,25,26,27] [co 29 (.iadrS 1 (.t 25) (.t 27)),ld 30 1 29,cm 8 30]) (.ops [6,25,26,27] [cm 31 6,cm 32 8,⟨(some 33),none,.app 4 64 (.t 31) (.t 32)⟩,cm 6 33]))) (.ops [6,25,26,27] [co 34 (.bin .add (.t 27) (.c (I 1))),cm 27 34])))
def fh:Cmd:=.seq (.ops [0,3,9,10,11,12] [b2 12 .lss 11 10]) (.seq (.cond (.t 12) (.skip) (.exit 0)) (.seq (.block 1 [0,3,9,10,11] (.seq (.ops [0,3,5,9,10,11] [co 13 (.iadrS 1 (.t 9) (.t 11)),ld 14 1 13,cm 5 14]) (.seq (.ops [0,3,9,10,11] [cm 15 3,cm 16 5,co 17 (.len false (.t 16)),b2 18 .add 15 17,cm 3 18]) (.seq (.ops [0,3,9,10,11,20] [cm 19 3,co 20 (.bin .lss (.t 19) (.c (I 0)))]) (.cond (.t 20) (.ops [0,3,9,10,11] [⟨(some 21),none,.bad⟩,⟨none,none,.bad⟩]) (.skip)))))) (.ops [0,3,9,10,11] [co 22 (.bin .add (.t 11) (.c (I 1))),cm 11 22])))
def fQ:Cmd:=.seq (.ops [0] [co 2 (.mv (.c .emp))]) (.seq (.ops [0,3] [co 3 (.mv (.c (I 0)))]) (.seq (.seq (.ops [0,3,9,10,11] [cm 9 0,co 10 (.len false (.t 9)),co 11 (.mv (.c (I 0)))]) (.block 0 [0,3] (.loop [0,3,9,10,11] [] fh))) (.seq (.ops [0,6] [cm 23 3,ca 24 F.slices_Grow_api_Term_api_Term_ [.c .emp,.t 23],cm 6 24]) (.seq (.seq (.ops [6,25,26,27] [cm 25 0,co 26 (.len false (.t 25)),co 27 (.mv (.c (I 0)))]) (.block 2 [6] (.loop [6,25,26,27] [33,2192] cS))) (.seq (.ops [2] [cm 35 6,cm 2 35]) (.ret))))))
def bZ:FD:=⟨1,[[.o 5 [.o 2 [],.o 0 [],.o 2 [],.o 0 []]]],[.t 2],fQ⟩
def gQ:Cmd:=.seq (.ops [2,3] [bx 2 3 (.t 0),bx 3 3 (.t 1),co 4 (.mv (.c (I 0)))]) (.seq (.seq (.ops [2,3,14] [la 7 3 2,ca 8 F.dyadic_Valid [.t 7],co 9 (.un .not (.t 8)),cm 10 9,⟨(some 11),(some (10,false)),.load 3 true (.t 3)⟩,⟨(some 12),(some (10,false)),.call (.c (.fn F.dyadic_Valid [] [])) [.t 11]⟩,cg 13 10 false (.un .not (.t 12)),co 14 (.pick (.t 10) (.c (B true)) (.t 13))]) (.cond (.t 14) (.seq (.ops [4] [co 4 (.mv (.c (I 0)))]) (.ret)) (.skip))) (.seq (.dops [2,3,5,6] [la 15 3 2,ca 16 F.dyadic_Sign [.t 15],la 17 3 3,ca 18 F.dyadic_Sign [.t 17],cm 5 16,cm 6 18] [(1,2)]) (.seq (.block 0 [2,3,5] (.seq (.ops [2,3,5,6,19] [cm 20 5,cm 21 6,b2 22 .lss 20 21,cm 19 22]) (.cond (.t 19) (.seq (.ops [4] [co 4 (.mv (.c (I (-1))))]) (.ret)) (.seq (.ops [2,3,5,23] [cm 24 5,cm 25 6,b2 26 .gtr 24 25,cm 23 26]) (.cond (.t 23) (.seq (.ops [4] [co 4 (.mv (.c (I 1)))]) (.ret)) (.seq (.ops [2,3,5,27] [cm 28 5,co 29 (.bin .eql (.t 28) (.c (I 0))),cm 27 29]) (.cond (.t 27) (.seq (.ops [4] [co 4 (.mv (.c (I 0)))]) (.ret)) (.skip)))))))) (.seq (.ops [4] [cm 30 5,la 31 3 2,la 32 3 3,ca 33 F.dyadic_compare [.t 31,.t 32],b2 34 .mul 30 33,cm 4 34]) (.ret)))))
def dH:FD:=⟨2,[[]],[.t 4],gQ⟩
def aeF:Cmd:=.seq (.ops [0,1] [co 4 (.mv (.c (B false)))]) (.seq (.ops [4] [cm 5 0,cm 6 1,ca 7 F.slices_IndexFunc_api_Dyadic_api_Dyadic_ [.t 5,.t 6],co 8 (.bin .geq (.t 7) (.c (I 0))),cm 4 8]) (.ret))
def adK:FD:=⟨2,[[]],[.t 4],aeF⟩
def afr:Cmd:=.seq (.ops [1] [bx 1 3 (.t 0),co 2 (.mv (.c (B false)))]) (.seq (.ops [2] [fa 3 1 1,ld 4 1 3,co 5 (.len false (.t 4)),co 6 (.bin .gtr (.t 5) (.c (I 4))),cm 2 6]) (.ret))
def aeY:FD:=⟨1,[[]],[.t 2],afr⟩
def eP:Cmd:=.seq (.ops [1] [bx 1 3 (.t 0),co 2 (.mv (.c (B false)))]) (.seq (.seq (.ops [1,6] [fa 3 1 1,ld 4 1 3,co 5 (.len false (.t 4)),co 6 (.bin .eql (.t 5) (.c (I 0)))]) (.cond (.t 6) (.seq (.ops [2] [fa 7 0 1,ld 8 1 7,co 9 (.un .not (.t 8)),cm 10 9,cg 11 10 true (.fadr 2 (.t 1)),⟨(some 12),(some (10,true)),.load 1 false (.t 11)⟩,cg 13 10 true (.bin .eql (.t 12) (.c (I 0))),co 14 (.pick (.t 10) (.t 13) (.c (B false))),cm 2 14]) (.ret)) (.skip))) (.seq (.ops [2] [fa 15 1 1,ld 16 1 15,co 17 (.len false (.t 16)),co 18 (.bin .leq (.t 17) (.c (I 256))),cm 19 18,cg 20 19 true (.fadr 1 (.t 1)),⟨(some 21),(some (19,true)),.load 1 false (.t 20)⟩,cg 22 19 true (.iadrS 1 (.t 21) (.c (I 0))),⟨(some 23),(some (19,true)),.load 1 false (.t 22)⟩,cg 24 19 true (.bin .rem (.t 23) (.c (U 2))),cg 25 19 true (.bin .eql (.t 24) (.c (U 1))),co 26 (.pick (.t 19) (.t 25) (.c (B false))),cm 27 26,cg 28 27 true (.fadr 1 (.t 1)),⟨(some 29),(some (27,true)),.load 1 false (.t 28)⟩,cg 30 27 true (.fadr 1 (.t 1)),⟨(some 31),(some (27,true)),.load 1 false (.t 30)⟩,cg 32 27 true (.len false (.t 31)),cg 33 27 true (.bin .sub (.t 32) (.c (I 1))),cg 34 27 true (.iadrS 1 (.t 29) (.t 33)),⟨(some 35),(some (27,true)),.load 1 false (.t 34)⟩,cg 36 27 true (.bin .neq (.t 35) (.c (U 0))),co 37 (.pick (.t 27) (.t 36) (.c (B false))),cm 38 37,⟨(some 39),(some (38,true)),.load 3 true (.t 1)⟩,⟨(some 40),(some (38,true)),.call (.c (.fn F.dyadic_inRange [] [])) [.t 39]⟩,co 41 (.pick (.t 38) (.t 40) (.c (B false))),cm 2 41]) (.ret)))
def cL:FD:=⟨1,[[]],[.t 2],eP⟩
def adZ:Cmd:=.seq (.ops [3,4,6,10,11,12] [b2 12 .lss 11 10]) (.seq (.cond (.t 12) (.skip) (.exit 0)) (.seq (.block 1 [3,4,6,10,11] (.seq (.ops [3,4,6,8,9,10,11] [la 14 3 3,la 15 3 4,ca 16 F.dyadic_Mul [.t 14,.t 15],cm 13 16,co 17 (.ext 0 (.t 13)),co 18 (.ext 1 (.t 13)),al 8 [B false,.emp,I 0],sr 3 (.t 8) (.t 17),cm 9 18]) (.seq (.seq (.ops [3,4,6,8,10,11,20] [cm 19 9,co 20 (.bin .neq (.t 19) (.c (I 0)))]) (.cond (.t 20) (.seq (.ops [6,7] [co 21 (.build [B false,.emp,I 0] []),sr 3 (.t 6) (.t 21),co 7 (.mv (.c (B false)))]) (.ret)) (.skip))) (.ops [3,4,6,10,11] [la 22 3 8,sr 3 (.t 3) (.t 22)])))) (.ops [3,4,6,10,11] [co 23 (.bin .add (.t 11) (.c (I 1))),cm 11 23])))
def afs:Cmd:=.seq (.ops [2,3,4,6] [bx 3 3 (.t 0),bx 4 3 (.t 1),al 6 [B false,.emp,I 0],co 7 (.mv (.c (B false)))]) (.seq (.seq (.ops [3,4,6,10,11] [cm 10 2,co 11 (.mv (.c (I 0)))]) (.block 0 [3,6] (.loop [3,4,6,10,11] [3,4,6] adZ))) (.seq (.ops [6,7] [la 24 3 3,sr 3 (.t 6) (.t 24),co 7 (.mv (.c (B true)))]) (.ret)))
def aeZ:FD:=⟨3,[[.o 0 [],.o 2 [],.o 0 []],[]],[.cell 6 3 true,.t 7],afs⟩
def oE:Cmd:=.seq (.ops [2,3,4] [bx 2 3 (.t 0),bx 3 3 (.t 1),al 4 [B false,.emp,I 0],co 5 (.mv (.c (I 0)))]) (.seq (.seq (.ops [2,3,4,24] [fa 15 1 2,ld 16 1 15,co 17 (.len false (.t 16)),co 18 (.bin .eql (.t 17) (.c (I 0))),cm 19 18,cg 20 19 false (.fadr 1 (.t 3)),⟨(some 21),(some (19,false)),.load 1 false (.t 20)⟩,cg 22 19 false (.len false (.t 21)),cg 23 19 false (.bin .eql (.t 22) (.c (I 0))),co 24 (.pick (.t 19) (.c (B true)) (.t 23))]) (.cond (.t 24) (.seq (.seq (.ops [2,3,4,28] [fa 25 1 2,ld 26 1 25,co 27 (.len false (.t 26)),co 28 (.bin .eql (.t 27) (.c (I 0)))]) (.cond (.t 28) (.ops [2,4] [la 29 3 3,sr 3 (.t 2) (.t 29)]) (.skip))) (.seq (.ops [4,5] [fa 30 0 2,ld 31 1 30,fa 32 1 2,ld 33 1 32,fa 34 2 2,ld 35 1 34,ca 36 F.dyadic_canonical [.t 31,.t 33,.t 35],sr 3 (.t 4) (.t 36),co 5 (.mv (.c (I 0)))]) (.ret))) (.skip))) (.seq (.ops [2,3,4,6] [fa 37 2 2,ld 38 1 37,fa 39 2 3,ld 40 1 39,co 41 (.mnx true (.t 38) [.t 40]),cm 6 41]) (.seq (.dops [2,3,4,6,7,8] [la 42 3 2,ca 43 F.dyadic_Top [.t 42],la 44 3 3,ca 45 F.dyadic_Top [.t 44],cm 7 43,cm 8 45] [(1,2)]) (.seq (.seq (.ops [2,3,4,6,63] [cm 46 7,cm 47 8,co 48 (.mnx false (.t 46) [.t 47]),cm 49 6,b2 50 .sub 48 49,co 51 (.bin .gtr (.t 50) (.c (I 4097))),cm 52 51,cg 53 52 true (.mv (.t 7)),cg 54 52 true (.mv (.t 8)),cg 55 52 true (.bin .sub (.t 53) (.t 54)),cg 56 52 true (.bin .gtr (.t 55) (.c (I 1))),cg 57 52 true (.mv (.t 56)),cg 58 57 false (.mv (.t 8)),cg 59 57 false (.mv (.t 7)),cg 60 57 false (.bin .sub (.t 58) (.t 59)),cg 61 57 false (.bin .gtr (.t 60) (.c (I 1))),cg 62 52 true (.pick (.t 57) (.c (B true)) (.t 61)),co 63 (.pick (.t 52) (.t 62) (.c (B false)))]) (.cond (.t 63) (.seq (.ops [4,5] [co 64 (.build [B false,.emp,I 0] []),sr 3 (.t 4) (.t 64),co 5 (.mv (.c (I 9)))]) (.ret)) (.skip))) (.seq (.dops [2,3,4,6,9,10] [fa 65 1 2,ld 66 1 65,fa 67 2 2,ld 68 1 67,cm 69 6,b2 70 .sub 68 69,ca 71 F.dyadic_shifted [.t 66,.t 70],fa 72 1 3,ld 73 1 72,fa 74 2 3,ld 75 1 74,cm 76 6,b2 77 .sub 75 76,ca 78 F.dyadic_shifted [.t 73,.t 77],cm 9 71,cm 10 78] [(6,8),(6,10)]) (.seq (.seq (.ops [2,3,4,6,9,10,83] [fa 79 0 2,ld 80 1 79,fa 81 0 3,ld 82 1 81,co 83 (.eqc false 0 (.t 80) (.t 82))]) (.cond (.t 83) (.seq (.ops [2,4,6,11] [cm 85 9,cm 86 10,ca 87 F.natural_Add [.t 85,.t 86],cm 84 87,co 88 (.ext 0 (.t 84)),co 89 (.ext 1 (.t 84)),cm 11 88,cm 12 89]) (.seq (.ops [4,5] [fa 90 0 2,ld 91 1 90,cm 92 11,cm 93 6,ca 94 F.dyadic_canonical [.t 91,.t 92,.t 93],ca 95 F.dyadic_checked [.t 94],co 96 (.ext 0 (.t 95)),co 97 (.ext 1 (.t 95)),sr 3 (.t 4) (.t 96),cm 5 97]) (.ret))) (.skip))) (.seq (.seq (.ops [2,3,4,6,9,10,101] [cm 98 9,cm 99 10,ca 100 F.natural_Cmp [.t 98,.t 99],co 101 (.bin .lss (.t 100) (.c (I 0)))]) (.cond (.t 101) (.ops [2,4,6,9,10] [la 102 3 3,cm 103 10,cm 104 9,sr 3 (.t 2) (.t 102),cm 9 103,cm 10 104]) (.skip))) (.seq (.ops [2,4,6,13] [cm 106 9,cm 107 10,ca 108 F.natural_Sub [.t 106,.t 107],cm 105 108,co 109 (.ext 0 (.t 105)),co 110 (.ext 1 (.t 105)),cm 13 109,cm 14 110]) (.seq (.ops [4,5] [fa 111 0 2,ld 112 1 111,cm 113 13,cm 114 6,ca 115 F.dyadic_canonical [.t 112,.t 113,.t 114],ca 116 F.dyadic_checked [.t 115],co 117 (.ext 0 (.t 116)),co 118 (.ext 1 (.t 116)),sr 3 (.t 4) (.t 117),cm 5 118]) (.ret))))))))))
def dI:FD:=⟨2,[[.o 0 [],.o 2 [],.o 0 []],[]],[.cell 4 3 true,.t 5],oE⟩
def F1:Cmd:=.seq (.ops [1,2] [bx 1 3 (.t 0),al 2 [B false,.emp,I 0]]) (.seq (.seq (.ops [1,2,11] [la 3 3 1,ca 4 F.dyadic_Valid [.t 3],co 5 (.un .not (.t 4)),cm 6 5,cg 7 6 false (.fadr 1 (.t 1)),⟨(some 8),(some (6,false)),.load 1 false (.t 7)⟩,cg 9 6 false (.len false (.t 8)),cg 10 6 false (.bin .eql (.t 9) (.c (I 0))),co 11 (.pick (.t 6) (.c (B true)) (.t 10))]) (.cond (.t 11) (.seq (.ops [2] [co 12 (.build [B false,.emp,I 0] []),sr 3 (.t 2) (.t 12)]) (.ret)) (.skip))) (.seq (.dops [2] [fa 13 0 1,ld 14 1 13,co 15 (.un .not (.t 14)),fa 16 1 1,ld 17 1 16,ca 18 F.slices_Clone_uint32_uint32_ [.t 17],fa 19 2 1,ld 20 1 19,co 21 (.build [B false,.emp,I 0] [(0,1,.t 15),(1,1,.t 18),(2,1,.t 20)]),sr 3 (.t 2) (.t 21)] [(1,5),(5,7)]) (.ret)))
def vn:FD:=⟨1,[[.o 0 [],.o 2 [],.o 0 []]],[.cell 2 3 true],F1⟩
def vo:Cmd:=.seq (.ops [0] [co 2 (.mv (.c (I 0)))]) (.seq (.ops [2] [cm 3 0,ca 4 F.natural_Bits [.t 3],cm 2 4]) (.ret))
def l5:FD:=⟨1,[[]],[.t 2],vo⟩
def qx:Cmd:=.seq (.ops [0,1] [co 4 (.mv (.c .emp)),co 5 (.mv (.c (I 0)))]) (.seq (.seq (.ops [0,1,9] [cm 6 0,cm 7 1,⟨(some 8),none,.buildSl 1 [.emp] 2 [(0,.t 6),(1,.t 7)]⟩,ca 9 F.natural_long [.t 8]]) (.cond (.t 9) (.seq (.ops [4,5] [co 4 (.mv (.c .emp)),co 5 (.mv (.c (I 9)))]) (.ret)) (.skip))) (.seq (.ops [4,5] [cm 10 0,ca 11 F.natural_trim [.t 10],cm 12 1,ca 13 F.natural_trim [.t 12],ca 14 F.natural_mul [.t 11,.t 13],ca 15 F.natural_done [.t 14],co 16 (.ext 0 (.t 15)),co 17 (.ext 1 (.t 15)),cm 4 16,cm 5 17]) (.ret)))
def jo:FD:=⟨2,[[.o 2 []],[]],[.t 4,.t 5],qx⟩
def ni:Cmd:=.seq (.ops [1,2] [bx 1 3 (.t 0),al 2 [B false,.emp,I 0],co 3 (.mv (.c (I 0)))]) (.seq (.seq (.ops [1,2,6] [la 4 3 1,ca 5 F.dyadic_inRange [.t 4],co 6 (.un .not (.t 5))]) (.cond (.t 6) (.seq (.ops [2,3] [co 7 (.build [B false,.emp,I 0] []),sr 3 (.t 2) (.t 7),co 3 (.mv (.c (I 9)))]) (.ret)) (.skip))) (.seq (.ops [2,3] [la 8 3 1,sr 3 (.t 2) (.t 8),co 3 (.mv (.c (I 0)))]) (.ret)))
def fR:FD:=⟨1,[[.o 0 [],.o 2 [],.o 0 []],[]],[.cell 2 3 true,.t 3],ni⟩
def lJ:Cmd:=.seq (.ops [0,1,2,6] [al 6 [B false,.emp,I 0]]) (.seq (.ops [0,1,2,6] [cm 10 1,ca 11 F.dyadic_trimmed [.t 10],cm 1 11]) (.seq (.seq (.ops [0,1,2,6,14] [cm 12 1,co 13 (.len false (.t 12)),co 14 (.bin .eql (.t 13) (.c (I 0)))]) (.cond (.t 14) (.seq (.ops [6] [co 15 (.build [B false,.emp,I 0] []),sr 3 (.t 6) (.t 15)]) (.ret)) (.skip))) (.seq (.ops [0,1,2,6,7] [cm 16 1,ca 17 F.dyadic_low [.t 16],cm 7 17]) (.seq (.ops [0,2,6,7,8] [cm 19 1,cm 20 7,ca 21 F.natural_Shr [.t 19,.t 20],cm 18 21,co 22 (.ext 0 (.t 18)),co 23 (.ext 1 (.t 18)),cm 8 22,cm 9 23]) (.seq (.ops [6] [cm 24 0,cm 25 8,ca 26 F.slices_Clone_uint32_uint32_ [.t 25],ca 27 F.slices_Clip_uint32_uint32_ [.t 26],cm 28 2,cm 29 7,b2 30 .add 28 29,co 31 (.build [B false,.emp,I 0] [(0,1,.t 24),(1,1,.t 27),(2,1,.t 30)]),sr 3 (.t 6) (.t 31)]) (.ret))))))
def eK:FD:=⟨3,[[.o 0 [],.o 2 [],.o 0 []]],[.cell 6 3 true],lJ⟩
def jU:Cmd:=.seq (.ops [3,6,7,8,9] [b2 9 .lss 8 7]) (.seq (.cond (.t 9) (.skip) (.exit 0)) (.seq (.block 1 [3,6,7,8] (.seq (.ops [3,5,6,7,8] [co 10 (.iadrS 1 (.t 6) (.t 8)),ld 11 1 10,cm 5 11]) (.ops [3,6,7,8] [cm 12 3,cm 13 5,b2 14 .add 12 13,cm 3 14]))) (.ops [3,6,7,8] [co 15 (.bin .add (.t 8) (.c (I 1))),cm 8 15])))
def vr:Cmd:=.seq (.ops [0] [co 2 (.mv (.c (I 0)))]) (.seq (.ops [0,3] [co 3 (.mv (.c (I 0)))]) (.seq (.seq (.ops [3,6,7,8] [cm 6 0,co 7 (.len false (.t 6)),co 8 (.mv (.c (I 0)))]) (.block 0 [3] (.loop [3,6,7,8] [] jU))) (.seq (.ops [2] [cm 16 3,cm 2 16]) (.ret))))
def l6:FD:=⟨1,[[]],[.t 2],vr⟩
def aj6:Cmd:=.seq (.seq (.ops [0,3,4,8] [cm 5 4,cm 6 0,co 7 (.len false (.t 6)),b2 8 .lss 5 7]) (.cond (.t 8) (.skip) (.exit 0))) (.seq (.block 1 [0,3,4] (.ops [0,3,4] [cm 11 3,cm 12 0,cm 13 4,co 14 (.iadrS 1 (.t 12) (.t 13)),ld 15 1 14,b2 16 .add 11 15,cm 3 16])) (.ops [0,3,4] [cm 9 4,co 10 (.bin .add (.t 9) (.c (I 1))),cm 4 10]))
def am2:Cmd:=.seq (.ops [0] [co 2 (.mv (.c (I 0)))]) (.seq (.ops [0,3] [co 3 (.mv (.c (I 0)))]) (.seq (.seq (.ops [0,3,4] [co 4 (.mv (.c (I 0)))]) (.block 0 [3] (.loop [0,3,4] [] aj6))) (.seq (.ops [2] [cm 17 3,cm 2 17]) (.ret))))
def akC:FD:=⟨1,[[]],[.t 2],am2⟩
def aiu:Cmd:=.seq (.seq (.ops [0,1,7,21] [cm 18 7,cm 19 0,co 20 (.len false (.t 19)),b2 21 .lss 18 20]) (.cond (.t 21) (.skip) (.exit 0))) (.seq (.block 1 [0,1,7] (.seq (.seq (.dops [0,1,7,32] [cm 24 0,cm 25 7,co 26 (.iadrS 1 (.t 24) (.t 25)),ld 27 1 26,cm 28 1,cm 29 7,co 30 (.iadrS 1 (.t 28) (.t 29)),ld 31 1 30,b2 32 .gtr 27 31] []) (.cond (.t 32) (.seq (.ops [4] [co 4 (.mv (.c (I (-1))))]) (.ret)) (.skip))) (.seq (.dops [0,1,7,41] [cm 33 0,cm 34 7,co 35 (.iadrS 1 (.t 33) (.t 34)),ld 36 1 35,cm 37 1,cm 38 7,co 39 (.iadrS 1 (.t 37) (.t 38)),ld 40 1 39,b2 41 .lss 36 40] []) (.cond (.t 41) (.seq (.ops [4] [co 4 (.mv (.c (I 1)))]) (.ret)) (.skip))))) (.ops [0,1,7] [cm 22 7,co 23 (.bin .add (.t 22) (.c (I 1))),cm 7 23]))
def ajj:Cmd:=.seq (.ops [0,1] [co 4 (.mv (.c (I 0)))]) (.seq (.ops [0,1,5,6] [cm 8 0,ca 9 F.r23_sum [.t 8],cm 10 1,ca 11 F.r23_sum [.t 10],cm 5 9,cm 6 11]) (.seq (.seq (.ops [0,1,5,6,14] [cm 12 5,cm 13 6,b2 14 .lss 12 13]) (.cond (.t 14) (.seq (.ops [4] [co 4 (.mv (.c (I (-1))))]) (.ret)) (.skip))) (.seq (.seq (.ops [0,1,17] [cm 15 5,cm 16 6,b2 17 .gtr 15 16]) (.cond (.t 17) (.seq (.ops [4] [co 4 (.mv (.c (I 1)))]) (.ret)) (.skip))) (.seq (.seq (.ops [0,1,7] [co 7 (.mv (.c (I 0)))]) (.block 0 [] (.loop [0,1,7] [] aiu))) (.seq (.ops [4] [co 4 (.mv (.c (I 0)))]) (.ret))))))
def aiv:FD:=⟨2,[[]],[.t 4],ajj⟩
def aiG:Cmd:=.seq (.seq (.ops [2,3,5,31] [cm 27 5,fa 28 1 2,ld 29 1 28,co 30 (.len false (.t 29)),b2 31 .lss 27 30]) (.cond (.t 31) (.skip) (.exit 0))) (.seq (.block 1 [2,3,5] (.seq (.dops [2,3,5,44] [fa 34 1 2,ld 35 1 34,cm 36 5,co 37 (.iadrS 1 (.t 35) (.t 36)),ld 38 1 37,fa 39 1 3,ld 40 1 39,cm 41 5,co 42 (.iadrS 1 (.t 40) (.t 41)),ld 43 1 42,b2 44 .neq 38 43] []) (.cond (.t 44) (.seq (.ops [4] [co 4 (.mv (.c (B false)))]) (.ret)) (.skip)))) (.ops [2,3,5] [cm 32 5,co 33 (.bin .add (.t 32) (.c (I 1))),cm 5 33]))
def ajx:Cmd:=.seq (.ops [2,3] [bx 2 3 (.t 0),bx 3 3 (.t 1),co 4 (.mv (.c (B false)))]) (.seq (.seq (.ops [2,3,26] [fa 6 0 2,ld 7 1 6,fa 8 0 3,ld 9 1 8,co 10 (.eqc true 0 (.t 7) (.t 9)),cm 11 10,cg 12 11 false (.fadr 2 (.t 2)),⟨(some 13),(some (11,false)),.load 1 false (.t 12)⟩,cg 14 11 false (.fadr 2 (.t 3)),⟨(some 15),(some (11,false)),.load 1 false (.t 14)⟩,cg 16 11 false (.bin .neq (.t 13) (.t 15)),co 17 (.pick (.t 11) (.c (B true)) (.t 16)),cm 18 17,cg 19 18 false (.fadr 1 (.t 2)),⟨(some 20),(some (18,false)),.load 1 false (.t 19)⟩,cg 21 18 false (.len false (.t 20)),cg 22 18 false (.fadr 1 (.t 3)),⟨(some 23),(some (18,false)),.load 1 false (.t 22)⟩,cg 24 18 false (.len false (.t 23)),cg 25 18 false (.bin .neq (.t 21) (.t 24)),co 26 (.pick (.t 18) (.c (B true)) (.t 25))]) (.cond (.t 26) (.seq (.ops [4] [co 4 (.mv (.c (B false)))]) (.ret)) (.skip))) (.seq (.seq (.ops [2,3,5] [co 5 (.mv (.c (I 0)))]) (.block 0 [] (.loop [2,3,5] [2,3] aiG))) (.seq (.ops [4] [co 4 (.mv (.c (B true)))]) (.ret))))
def aiL:FD:=⟨2,[[]],[.t 4],ajx⟩
def ain:Cmd:=.seq (.ops [1,2,4] [bx 2 3 (.t 0),al 4 [B false,.emp,I 0],co 5 (.mv (.c (I 0)))]) (.seq (.ops [1,2,4,6,7] [la 14 3 2,cm 15 1,ca 16 F.round_Down [.t 14,.t 15],cm 13 16,co 17 (.ext 0 (.t 13)),co 18 (.ext 1 (.t 13)),al 6 [B false,.emp,I 0],sr 3 (.t 6) (.t 17),cm 7 18]) (.seq (.seq (.ops [1,2,4,6,7,20] [cm 19 7,co 20 (.bin .neq (.t 19) (.c (I 0)))]) (.cond (.t 20) (.seq (.ops [4,5] [co 21 (.build [B false,.emp,I 0] []),cm 22 7,sr 3 (.t 4) (.t 21),cm 5 22]) (.ret)) (.skip))) (.seq (.ops [2,4,6,7,8] [la 24 3 2,cm 25 1,ca 26 F.round_Up [.t 24,.t 25],cm 23 26,co 27 (.ext 0 (.t 23)),co 28 (.ext 1 (.t 23)),al 8 [B false,.emp,I 0],sr 3 (.t 8) (.t 27),cm 7 28]) (.seq (.seq (.ops [2,4,6,7,8,30] [cm 29 7,co 30 (.bin .neq (.t 29) (.c (I 0)))]) (.cond (.t 30) (.seq (.ops [4,5] [co 31 (.build [B false,.emp,I 0] []),cm 32 7,sr 3 (.t 4) (.t 31),cm 5 32]) (.ret)) (.skip))) (.seq (.ops [2,4,6,8,9] [la 34 3 2,la 35 3 6,ca 36 F.dyadic_Sub [.t 34,.t 35],cm 33 36,co 37 (.ext 0 (.t 33)),co 38 (.ext 1 (.t 33)),al 9 [B false,.emp,I 0],sr 3 (.t 9) (.t 37),cm 10 38]) (.seq (.ops [4,6,8,9,11] [la 40 3 8,la 41 3 2,ca 42 F.dyadic_Sub [.t 40,.t 41],cm 39 42,co 43 (.ext 0 (.t 39)),co 44 (.ext 1 (.t 39)),al 11 [B false,.emp,I 0],sr 3 (.t 11) (.t 43),cm 12 44]) (.seq (.seq (.ops [4,6,8,47] [la 45 3 9,la 46 3 11,ca 47 F.dyadic_Cmp [.t 45,.t 46]]) (.block 0 [4,6,8] (.seq (.ops [4,6,8,47,48] [co 49 (.bin .eql (.t 47) (.c (I (-1)))),cm 48 49]) (.cond (.t 48) (.seq (.ops [4,5] [la 50 3 6,sr 3 (.t 4) (.t 50),co 5 (.mv (.c (I 0)))]) (.ret)) (.seq (.ops [4,6,8,51] [co 52 (.bin .eql (.t 47) (.c (I 1))),cm 51 52]) (.cond (.t 51) (.seq (.ops [4,5] [la 53 3 8,sr 3 (.t 4) (.t 53),co 5 (.mv (.c (I 0)))]) (.ret)) (.skip))))))) (.seq (.seq (.ops [4,6,8,70] [fa 54 1 8,ld 55 1 54,co 56 (.len false (.t 55)),co 57 (.bin .eql (.t 56) (.c (I 0))),cm 58 57,cg 59 58 false (.fadr 1 (.t 6)),⟨(some 60),(some (58,false)),.load 1 false (.t 59)⟩,cg 61 58 false (.len false (.t 60)),cg 62 58 false (.bin .gtr (.t 61) (.c (I 0))),cg 63 58 false (.mv (.t 62)),cg 64 63 true (.fadr 2 (.t 8)),⟨(some 65),(some (63,true)),.load 1 false (.t 64)⟩,cg 66 63 true (.fadr 2 (.t 6)),⟨(some 67),(some (63,true)),.load 1 false (.t 66)⟩,cg 68 63 true (.bin .gtr (.t 65) (.t 67)),cg 69 58 false (.pick (.t 63) (.t 68) (.c (B false))),co 70 (.pick (.t 58) (.c (B true)) (.t 69))]) (.cond (.t 70) (.seq (.ops [4,5] [la 71 3 8,sr 3 (.t 4) (.t 71),co 5 (.mv (.c (I 0)))]) (.ret)) (.skip))) (.seq (.ops [4,5] [la 72 3 6,sr 3 (.t 4) (.t 72),co 5 (.mv (.c (I 0)))]) (.ret))))))))))
def ah9:FD:=⟨2,[[.o 0 [],.o 2 [],.o 0 []],[]],[.cell 4 3 true,.t 5],ain⟩
def aix:Cmd:=.seq (.ops [1,2,4] [bx 2 3 (.t 0),al 4 [B false,.emp,I 0],co 5 (.mv (.c (I 0)))]) (.seq (.ops [1,2,4,6,7] [la 13 3 2,cm 14 1,ca 15 F.r03_Round [.t 13,.t 14,.c (B false)],cm 12 15,co 16 (.ext 0 (.t 12)),co 17 (.ext 1 (.t 12)),al 6 [B false,.emp,I 0],sr 3 (.t 6) (.t 16),cm 7 17]) (.seq (.seq (.ops [1,2,4,6,7,19] [cm 18 7,co 19 (.bin .neq (.t 18) (.c (I 0)))]) (.cond (.t 19) (.seq (.ops [4,5] [la 20 3 6,cm 21 7,sr 3 (.t 4) (.t 20),cm 5 21]) (.ret)) (.skip))) (.seq (.ops [2,4,6,7,8] [la 23 3 2,cm 24 1,ca 25 F.r03_Round [.t 23,.t 24,.c (B true)],cm 22 25,co 26 (.ext 0 (.t 22)),co 27 (.ext 1 (.t 22)),al 8 [B false,.emp,I 0],sr 3 (.t 8) (.t 26),cm 7 27]) (.seq (.seq (.ops [2,4,6,7,8,35] [cm 28 7,co 29 (.bin .neq (.t 28) (.c (I 0))),cm 30 29,⟨(some 31),(some (30,false)),.load 3 true (.t 6)⟩,⟨(some 32),(some (30,false)),.load 3 true (.t 8)⟩,⟨(some 33),(some (30,false)),.call (.c (.fn F.r02_Cmp [] [])) [.t 31,.t 32]⟩,cg 34 30 false (.bin .eql (.t 33) (.c (I 0))),co 35 (.pick (.t 30) (.c (B true)) (.t 34))]) (.cond (.t 35) (.seq (.ops [4,5] [la 36 3 8,cm 37 7,sr 3 (.t 4) (.t 36),cm 5 37]) (.ret)) (.skip))) (.seq (.dops [4,6,8,9,10] [la 38 3 2,la 39 3 6,ca 40 F.r02_Neg [.t 39],ca 41 F.r02_Sum [.t 38,.t 40],la 42 3 8,la 43 3 2,ca 44 F.r02_Neg [.t 43],ca 45 F.r02_Sum [.t 42,.t 44],al 9 [B false,.emp,I 0],al 10 [B false,.emp,I 0],sr 3 (.t 9) (.t 41),sr 3 (.t 10) (.t 45)] [(0,2),(2,4),(3,4),(2,5),(3,5),(4,6),(0,8),(1,8),(2,8),(3,8),(4,8),(5,8),(6,8),(7,8),(0,9),(1,9),(2,9),(3,9),(4,9),(5,9),(6,9),(7,9),(8,9)]) (.seq (.dops [4,6,8,11] [la 46 3 9,la 47 3 10,ca 48 F.r02_Neg [.t 47],ca 49 F.r02_Sum [.t 46,.t 48],al 11 [B false,.emp,I 0],sr 3 (.t 11) (.t 49)] [(0,2),(0,4),(1,4),(2,4),(3,4)]) (.seq (.seq (.ops [4,6,8,11,53] [fa 50 1 11,ld 51 1 50,co 52 (.len false (.t 51)),co 53 (.bin .gtr (.t 52) (.c (I 0)))]) (.cond (.t 53) (.seq (.seq (.ops [4,6,8,55] [fa 54 0 11,ld 55 1 54]) (.cond (.t 55) (.seq (.ops [4,5] [la 56 3 6,sr 3 (.t 4) (.t 56),co 5 (.mv (.c (I 0)))]) (.ret)) (.skip))) (.seq (.ops [4,5] [la 57 3 8,sr 3 (.t 4) (.t 57),co 5 (.mv (.c (I 0)))]) (.ret))) (.skip))) (.seq (.seq (.ops [4,6,8,74] [fa 58 1 6,ld 59 1 58,co 60 (.len false (.t 59)),co 61 (.bin .eql (.t 60) (.c (I 0))),cm 62 61,cg 63 62 false (.fadr 1 (.t 8)),⟨(some 64),(some (62,false)),.load 1 false (.t 63)⟩,cg 65 62 false (.len false (.t 64)),cg 66 62 false (.bin .gtr (.t 65) (.c (I 0))),cg 67 62 false (.mv (.t 66)),cg 68 67 true (.fadr 2 (.t 6)),⟨(some 69),(some (67,true)),.load 1 false (.t 68)⟩,cg 70 67 true (.fadr 2 (.t 8)),⟨(some 71),(some (67,true)),.load 1 false (.t 70)⟩,cg 72 67 true (.bin .gtr (.t 69) (.t 71)),cg 73 62 false (.pick (.t 67) (.t 72) (.c (B false))),co 74 (.pick (.t 62) (.c (B true)) (.t 73))]) (.cond (.t 74) (.seq (.ops [4,5] [la 75 3 6,sr 3 (.t 4) (.t 75),co 5 (.mv (.c (I 0)))]) (.ret)) (.skip))) (.seq (.ops [4,5] [la 76 3 8,sr 3 (.t 4) (.t 76),co 5 (.mv (.c (I 0)))]) (.ret))))))))))
def aif:FD:=⟨2,[[.o 0 [],.o 2 [],.o 0 []],[]],[.cell 4 3 true,.t 5],aix⟩
def akR:Cmd:=.seq (.ops [2,3,4] [bx 2 3 (.t 0),bx 3 3 (.t 1),al 4 [B false,.emp,I 0],co 5 (.mv (.c (I 0)))]) (.seq (.seq (.ops [2,3,4,13] [la 6 3 2,ca 7 F.r02_Valid [.t 6],co 8 (.un .not (.t 7)),cm 9 8,⟨(some 10),(some (9,false)),.load 3 true (.t 3)⟩,⟨(some 11),(some (9,false)),.call (.c (.fn F.r02_Valid [] [])) [.t 10]⟩,cg 12 9 false (.un .not (.t 11)),co 13 (.pick (.t 9) (.c (B true)) (.t 12))]) (.cond (.t 13) (.seq (.ops [4,5] [co 14 (.build [B false,.emp,I 0] []),sr 3 (.t 4) (.t 14),co 5 (.mv (.c (I 1)))]) (.ret)) (.skip))) (.seq (.ops [4,5] [la 15 3 2,la 16 3 3,ca 17 F.r02_Sum [.t 15,.t 16],ca 18 F.r02_Checked [.t 17],co 19 (.ext 0 (.t 18)),co 20 (.ext 1 (.t 18)),sr 3 (.t 4) (.t 19),cm 5 20]) (.ret)))
def ajF:FD:=⟨2,[[.o 0 [],.o 2 [],.o 0 []],[]],[.cell 4 3 true,.t 5],akR⟩
def alr:Cmd:=.seq (.ops [1,2] [bx 1 3 (.t 0),al 2 [B false,.emp,I 0]]) (.seq (.ops [2] [fa 3 0 1,ld 4 1 3,co 5 (.un .not (.t 4)),cm 6 5,cg 7 6 true (.fadr 1 (.t 1)),⟨(some 8),(some (6,true)),.load 1 false (.t 7)⟩,cg 9 6 true (.len false (.t 8)),cg 10 6 true (.bin .gtr (.t 9) (.c (I 0))),co 11 (.pick (.t 6) (.t 10) (.c (B false))),fa 12 1 1,ld 13 1 12,fa 14 2 1,ld 15 1 14,co 16 (.build [B false,.emp,I 0] [(0,1,.t 11),(1,1,.t 13),(2,1,.t 15)]),sr 3 (.t 2) (.t 16)]) (.ret))
def aj7:FD:=⟨1,[[.o 0 [],.o 2 [],.o 0 []]],[.cell 2 3 true],alr⟩
def akD:Cmd:=.seq (.ops [1] [bx 1 2 (.t 0),co 2 (.mv (.c (B false)))]) (.seq (.ops [2] [fa 3 0 1,ld 4 1 3,co 5 (.bin .eql (.t 4) (.c (I 0))),cm 6 5,cg 7 6 true (.fadr 1 (.t 1)),⟨(some 8),(some (6,true)),.load 1 false (.t 7)⟩,cg 9 6 true (.len false (.t 8)),cg 10 6 true (.bin .eql (.t 9) (.c (I 0))),co 11 (.pick (.t 6) (.t 10) (.c (B false))),cm 2 11]) (.ret))
def ajp:FD:=⟨1,[[]],[.t 2],akD⟩
def aim:Cmd:=.seq (.ops [1] [bx 1 3 (.t 0),co 2 (.mv (.c (B false)))]) (.seq (.seq (.ops [1,7] [fa 4 1 1,ld 5 1 4,co 6 (.len false (.t 5)),co 7 (.bin .eql (.t 6) (.c (I 0)))]) (.cond (.t 7) (.seq (.ops [2] [fa 8 0 1,ld 9 1 8,co 10 (.un .not (.t 9)),cm 11 10,cg 12 11 true (.fadr 2 (.t 1)),⟨(some 13),(some (11,true)),.load 1 false (.t 12)⟩,cg 14 11 true (.bin .eql (.t 13) (.c (I 0))),co 15 (.pick (.t 11) (.t 14) (.c (B false))),cm 2 15]) (.ret)) (.skip))) (.seq (.seq (.ops [1,48] [fa 16 1 1,ld 17 1 16,co 18 (.len false (.t 17)),co 19 (.bin .gtr (.t 18) (.c (I 256))),cm 20 19,cg 21 20 false (.fadr 1 (.t 1)),⟨(some 22),(some (20,false)),.load 1 false (.t 21)⟩,cg 23 20 false (.fadr 1 (.t 1)),⟨(some 24),(some (20,false)),.load 1 false (.t 23)⟩,cg 25 20 false (.len false (.t 24)),cg 26 20 false (.bin .sub (.t 25) (.c (I 1))),cg 27 20 false (.iadrS 1 (.t 22) (.t 26)),⟨(some 28),(some (20,false)),.load 1 false (.t 27)⟩,cg 29 20 false (.bin .eql (.t 28) (.c (U 0))),co 30 (.pick (.t 20) (.c (B true)) (.t 29)),cm 31 30,cg 32 31 false (.fadr 1 (.t 1)),⟨(some 33),(some (31,false)),.load 1 false (.t 32)⟩,cg 34 31 false (.iadrS 1 (.t 33) (.c (I 0))),⟨(some 35),(some (31,false)),.load 1 false (.t 34)⟩,cg 36 31 false (.bin .and (.t 35) (.c (U 1))),cg 37 31 false (.bin .eql (.t 36) (.c (U 0))),co 38 (.pick (.t 31) (.c (B true)) (.t 37)),cm 39 38,cg 40 39 false (.fadr 2 (.t 1)),⟨(some 41),(some (39,false)),.load 1 false (.t 40)⟩,cg 42 39 false (.bin .lss (.t 41) (.c (I (-16384)))),co 43 (.pick (.t 39) (.c (B true)) (.t 42)),cm 44 43,cg 45 44 false (.fadr 2 (.t 1)),⟨(some 46),(some (44,false)),.load 1 false (.t 45)⟩,cg 47 44 false (.bin .gtr (.t 46) (.c (I 16384))),co 48 (.pick (.t 44) (.c (B true)) (.t 47))]) (.cond (.t 48) (.seq (.ops [2] [co 2 (.mv (.c (B false)))]) (.ret)) (.skip))) (.seq (.ops [1,3] [fa 49 1 1,ld 50 1 49,ca 51 F.r02_bits [.t 50],cm 3 51]) (.seq (.ops [2] [cm 52 3,co 53 (.bin .leq (.t 52) (.c (I 4096))),cm 54 53,cg 55 54 true (.mv (.t 3)),cg 56 54 true (.fadr 2 (.t 1)),⟨(some 57),(some (54,true)),.load 1 false (.t 56)⟩,cg 58 54 true (.bin .add (.t 55) (.t 57)),cg 59 54 true (.bin .leq (.t 58) (.c (I 16384))),co 60 (.pick (.t 54) (.t 59) (.c (B false))),cm 2 60]) (.ret)))))
def aia:FD:=⟨1,[[]],[.t 2],aim⟩
def aiR:Cmd:=.seq (.seq (.ops [2,3,4,6,10] [cm 9 2,co 10 (.bin .gtr (.t 9) (.c (I 0)))]) (.cond (.t 10) (.skip) (.exit 0))) (.seq (.block 1 [2,3,4,6] (.seq (.ops [2,3,4,6] [co 8 (.mv (.c (I 0)))]) (.seq (.ops [2,3,4,6,8] [la 14 3 3,la 15 3 4,ca 16 F.r02_Mul [.t 14,.t 15],cm 13 16,co 17 (.ext 0 (.t 13)),co 18 (.ext 1 (.t 13)),sr 3 (.t 3) (.t 17),cm 8 18]) (.seq (.ops [2,3,4,6,20] [cm 19 8,co 20 (.bin .neq (.t 19) (.c (I 0)))]) (.cond (.t 20) (.seq (.ops [6,7] [la 21 3 3,sr 3 (.t 6) (.t 21),co 7 (.mv (.c (B false)))]) (.ret)) (.skip)))))) (.ops [2,3,4,6] [cm 11 2,co 12 (.bin .sub (.t 11) (.c (I 1))),cm 2 12]))
def alL:Cmd:=.seq (.ops [2,3,4,6] [bx 3 3 (.t 0),bx 4 3 (.t 1),al 6 [B false,.emp,I 0],co 7 (.mv (.c (B false)))]) (.seq (.block 0 [3,6] (.loop [2,3,4,6] [3,4,6] aiR)) (.seq (.ops [6,7] [la 22 3 3,sr 3 (.t 6) (.t 22),co 7 (.mv (.c (B true)))]) (.ret)))
def aj8:FD:=⟨3,[[.o 0 [],.o 2 [],.o 0 []],[]],[.cell 6 3 true,.t 7],alL⟩
def aiU:Cmd:=.seq (.seq (.dops [0,3,6,24] [cm 10 6,cm 11 0,co 12 (.len false (.t 11)),b2 13 .lss 10 12,cm 14 13,cg 15 14 true (.mv (.t 0)),cg 16 14 true (.mv (.t 6)),cg 17 14 true (.iadrS 4 (.t 15) (.t 16)),cg 18 14 true (.fadr 0 (.t 17)),⟨(some 19),(some (14,true)),.load 1 false (.t 18)⟩,cg 20 14 true (.fadr 0 (.t 3)),⟨(some 21),(some (14,true)),.load 1 false (.t 20)⟩,⟨(some 22),(some (14,true)),.call (.c (.fn F.r23_Compare [] [])) [.t 19,.t 21]⟩,cg 23 14 true (.bin .lss (.t 22) (.c (I 0))),co 24 (.pick (.t 14) (.t 23) (.c (B false)))] []) (.cond (.t 24) (.skip) (.exit 0))) (.block 1 [0,3,6] (.ops [0,3,6] [cm 25 6,co 26 (.bin .add (.t 25) (.c (I 1))),cm 6 26]))
def alm:Cmd:=.seq (.ops [0,3] [bx 3 4 (.t 1),co 4 (.mv (.c .emp)),co 5 (.mv (.c (B false)))]) (.seq (.ops [0,3,6] [co 6 (.mv (.c (I 0)))]) (.seq (.block 0 [0,3,6] (.loop [0,3,6] [3] aiU)) (.seq (.ops [0,3,6,7] [⟨(some 27),none,.buildSl 4 [.emp,B false,.emp,I 0] 0 []⟩,cm 28 0,cm 29 6,co 30 (.slc 4 (.t 28) none (some (.t 29)) none),⟨(some 31),none,.app 4 64 (.t 27) (.t 30)⟩,cm 7 31]) (.seq (.seq (.dops [0,3,6,7,46] [cm 32 6,cm 33 0,co 34 (.len false (.t 33)),b2 35 .lss 32 34,cm 36 35,cg 37 36 true (.mv (.t 0)),cg 38 36 true (.mv (.t 6)),cg 39 36 true (.iadrS 4 (.t 37) (.t 38)),cg 40 36 true (.fadr 0 (.t 39)),⟨(some 41),(some (36,true)),.load 1 false (.t 40)⟩,cg 42 36 true (.fadr 0 (.t 3)),⟨(some 43),(some (36,true)),.load 1 false (.t 42)⟩,⟨(some 44),(some (36,true)),.call (.c (.fn F.r23_Compare [] [])) [.t 41,.t 43]⟩,cg 45 36 true (.bin .eql (.t 44) (.c (I 0))),co 46 (.pick (.t 36) (.t 45) (.c (B false)))] []) (.cond (.t 46) (.seq (.dops [0,3,6,7,8,9] [cm 48 0,cm 49 6,co 50 (.iadrS 4 (.t 48) (.t 49)),fa 51 1 50,la 52 3 51,fa 53 1 3,la 54 3 53,ca 55 F.r02_Add [.t 52,.t 54],cm 47 55,co 56 (.ext 0 (.t 47)),co 57 (.ext 1 (.t 47)),al 8 [B false,.emp,I 0],sr 3 (.t 8) (.t 56),cm 9 57] [(4,11),(6,11),(7,11)]) (.seq (.seq (.ops [0,3,6,7,8,59] [cm 58 9,co 59 (.bin .neq (.t 58) (.c (I 0)))]) (.cond (.t 59) (.seq (.ops [4,5] [co 4 (.mv (.c .emp)),co 5 (.mv (.c (B false)))]) (.ret)) (.skip))) (.seq (.seq (.ops [0,3,6,7,8,63] [fa 60 1 8,ld 61 1 60,co 62 (.len false (.t 61)),co 63 (.bin .gtr (.t 62) (.c (I 0)))]) (.cond (.t 63) (.ops [0,6,7] [cm 64 7,fa 65 0 3,ld 66 1 65,la 67 3 8,co 68 (.build [.emp,B false,.emp,I 0] [(0,1,.t 66),(1,3,.t 67)]),⟨(some 69),none,.buildSl 4 [.emp,B false,.emp,I 0] 1 [(0,.t 68)]⟩,⟨(some 70),none,.app 4 64 (.t 64) (.t 69)⟩,cm 7 70]) (.skip))) (.seq (.ops [4,5] [cm 71 7,cm 72 0,cm 73 6,co 74 (.bin .add (.t 73) (.c (I 1))),co 75 (.slc 4 (.t 72) (some (.t 74)) none none),⟨(some 76),none,.app 4 64 (.t 71) (.t 75)⟩,cm 4 76,co 5 (.mv (.c (B true)))]) (.ret))))) (.skip))) (.seq (.ops [0,6,7] [cm 77 7,la 78 4 3,⟨(some 79),none,.buildSl 4 [.emp,B false,.emp,I 0] 1 [(0,.t 78)]⟩,⟨(some 80),none,.app 4 64 (.t 77) (.t 79)⟩,cm 7 80]) (.seq (.ops [4,5] [cm 81 7,cm 82 0,cm 83 6,co 84 (.slc 4 (.t 82) (some (.t 83)) none none),⟨(some 85),none,.app 4 64 (.t 81) (.t 84)⟩,cm 4 85,co 5 (.mv (.c (B true)))]) (.ret)))))))
def ajG:FD:=⟨2,[[.o 5 [.o 2 [],.o 0 [],.o 2 [],.o 0 []]],[]],[.t 4,.t 5],alm⟩
def oF:Cmd:=.seq (.ops [0,1] [co 4 (.mv (.c (B false)))]) (.seq (.ops [4] [cm 5 0,cm 6 1,ca 7 F.slices_IndexFunc_int_int_ [.t 5,.t 6],co 8 (.bin .geq (.t 7) (.c (I 0))),cm 4 8]) (.ret))
def dT:FD:=⟨2,[[]],[.t 4],oF⟩
def pp:Cmd:=.seq (.ops [0] [co 2 (.mv (.c (B false)))]) (.seq (.ops [2] [cm 3 0,co 4 (.bin .lss (.t 3) (.c (I 0))),cm 5 4,cg 6 5 false (.mv (.t 0)),cg 7 5 false (.bin .gtr (.t 6) (.c (I 32))),co 8 (.pick (.t 5) (.c (B true)) (.t 7)),cm 2 8]) (.ret))
def iy:FD:=⟨1,[[]],[.t 2],pp⟩
def rC:Cmd:=.seq (.ops [0,1] [co 4 (.mv (.c (I 0)))]) (.seq (.seq (.ops [0,1,5] [cm 6 0,ca 7 F.poly_degree [.t 6],cm 8 1,ca 9 F.poly_degree [.t 8],ca 10 F.cmp_Compare_int_ [.t 7,.t 9],cm 5 10]) (.seq (.ops [0,1,5,12] [cm 11 5,co 12 (.bin .neq (.t 11) (.c (I 0)))]) (.cond (.t 12) (.seq (.ops [4] [cm 13 5,cm 4 13]) (.ret)) (.skip)))) (.seq (.ops [4] [cm 14 1,cm 15 0,ca 16 F.slices_Compare_int_int_ [.t 14,.t 15],cm 4 16]) (.ret)))
def kC:FD:=⟨2,[[]],[.t 4],rC⟩
def jV:Cmd:=.seq (.ops [0,1,7,8,9] [b2 9 .lss 8 7]) (.seq (.cond (.t 9) (.skip) (.exit 0)) (.seq (.block 1 [0,1,7,8] (.seq (.ops [0,1,5,7,8] [cm 10 8,cm 5 10]) (.seq (.ops [0,1,5,7,8,16] [cm 11 1,cm 12 0,cm 13 5,co 14 (.iadrS 2 (.t 12) (.t 13)),la 15 2 14,⟨(some 16),none,.call (.t 11) [.t 15]⟩]) (.cond (.t 16) (.seq (.ops [4] [cm 17 5,cm 4 17]) (.ret)) (.skip))))) (.ops [0,1,7,8] [co 18 (.bin .add (.t 8) (.c (I 1))),cm 8 18])))
def lk:Cmd:=.seq (.ops [0,1] [co 4 (.mv (.c (I 0)))]) (.seq (.seq (.ops [0,1,7,8] [cm 6 0,co 7 (.len false (.t 6)),co 8 (.mv (.c (I 0)))]) (.block 0 [] (.loop [0,1,7,8] [] jV))) (.seq (.ops [4] [co 4 (.mv (.c (I (-1))))]) (.ret)))
def cJ:FD:=⟨2,[[]],[.t 4],lk⟩
def jW:Cmd:=.seq (.ops [0,1,7,8,9] [b2 9 .lss 8 7]) (.seq (.cond (.t 9) (.skip) (.exit 0)) (.seq (.block 1 [0,1,7,8] (.seq (.ops [0,1,5,7,8] [cm 10 8,cm 5 10]) (.seq (.ops [0,1,5,7,8,16] [cm 11 1,cm 12 0,cm 13 5,co 14 (.iadrS 4 (.t 12) (.t 13)),la 15 4 14,⟨(some 16),none,.call (.t 11) [.t 15]⟩]) (.cond (.t 16) (.seq (.ops [4] [cm 17 5,cm 4 17]) (.ret)) (.skip))))) (.ops [0,1,7,8] [co 18 (.bin .add (.t 8) (.c (I 1))),cm 8 18])))
def ll:Cmd:=.seq (.ops [0,1] [co 4 (.mv (.c (I 0)))]) (.seq (.seq (.ops [0,1,7,8] [cm 6 0,co 7 (.len false (.t 6)),co 8 (.mv (.c (I 0)))]) (.block 0 [] (.loop [0,1,7,8] [] jW))) (.seq (.ops [4] [co 4 (.mv (.c (I (-1))))]) (.ret)))
def cK:FD:=⟨2,[[]],[.t 4],ll⟩
def lK:Cmd:=.seq (.ops [0,1,7,8,9] [b2 9 .lss 8 7]) (.seq (.cond (.t 9) (.skip) (.exit 0)) (.seq (.block 1 [0,1,7,8] (.seq (.ops [0,1,5,7,8] [cm 10 8,cm 5 10]) (.seq (.ops [0,1,5,7,8,16] [cm 11 1,cm 12 0,cm 13 5,co 14 (.iadrS 1 (.t 12) (.t 13)),ld 15 1 14,⟨(some 16),none,.call (.t 11) [.t 15]⟩]) (.cond (.t 16) (.seq (.ops [4] [cm 17 5,cm 4 17]) (.ret)) (.skip))))) (.ops [0,1,7,8] [co 18 (.bin .add (.t 8) (.c (I 1))),cm 8 18])))
def mO:Cmd:=.seq (.ops [0,1] [co 4 (.mv (.c (I 0)))]) (.seq (.seq (.ops [0,1,7,8] [cm 6 0,co 7 (.len false (.t 6)),co 8 (.mv (.c (I 0)))]) (.block 0 [] (.loop [0,1,7,8] [] lK))) (.seq (.ops [4] [co 4 (.mv (.c (I (-1))))]) (.ret)))
def fS:FD:=⟨2,[[]],[.t 4],mO⟩
def DD:Cmd:=.seq (.ops [0,14,15,16] [b2 16 .lss 15 14]) (.seq (.cond (.t 16) (.skip) (.exit 0)) (.seq (.block 1 [0,14,15] (.seq (.ops [0,3,14,15] [cm 17 15,cm 3 17]) (.seq (.ops [0,4,14,15] [cm 18 0,cm 19 3,co 20 (.idxS (.t 18) (.t 19)),ca 21 F.lex_class [.t 20],cm 4 21]) (.seq (.ops [0,14,15,31] [cm 22 4,co 23 (.bin .neq (.t 22) (.c (I 2))),cm 24 23,cg 25 24 true (.mv (.t 4)),cg 26 24 true (.bin .neq (.t 25) (.c (I 3))),co 27 (.pick (.t 24) (.t 26) (.c (B false))),cm 28 27,cg 29 28 true (.mv (.t 4)),cg 30 28 true (.bin .neq (.t 29) (.c (I 4))),co 31 (.pick (.t 28) (.t 30) (.c (B false)))]) (.cond (.t 31) (.seq (.ops [2] [co 2 (.mv (.c (B false)))]) (.ret)) (.skip)))))) (.ops [0,14,15] [co 32 (.bin .add (.t 15) (.c (I 1))),cm 15 32])))
def Ku:Cmd:=.seq (.ops [0] [co 2 (.mv (.c (B false)))]) (.seq (.seq (.ops [0,12] [cm 5 0,co 6 (.bin .eql (.t 5) (.c (.v (.string ⟨#[]⟩)))),cm 7 6,cg 8 7 false (.mv (.t 0)),cg 9 7 false (.idxS (.t 8) (.c (I 0))),⟨(some 10),(some (7,false)),.call (.c (.fn F.lex_class [] [])) [.t 9]⟩,cg 11 7 false (.bin .neq (.t 10) (.c (I 2))),co 12 (.pick (.t 7) (.c (B true)) (.t 11))]) (.cond (.t 12) (.seq (.ops [2] [co 2 (.mv (.c (B false)))]) (.ret)) (.skip))) (.seq (.seq (.ops [0,14,15] [cm 13 0,co 14 (.len true (.t 13)),co 15 (.mv (.c (I 0)))]) (.block 0 [] (.loop [0,14,15] [] DD))) (.seq (.ops [2] [co 2 (.mv (.c (B true)))]) (.ret))))
def yH:FD:=⟨1,[[]],[.t 2],Ku⟩
def DE:Cmd:=.seq (.ops [0] [co 2 (.mv (.c (B false)))]) (.seq (.seq (.ops [3] [cm 3 0]) (.block 0 [] (.seq (.seq (.ops [3,4] [co 5 (.bin .eql (.t 3) (.c (.v (.string ⟨#[115,116,97,116,101]⟩)))),cm 4 5]) (.cond (.t 4) (.skip) (.seq (.ops [3,4] [co 6 (.bin .eql (.t 3) (.c (.v (.string ⟨#[112,97,114,97,109]⟩)))),cm 4 6]) (.cond (.t 4) (.skip) (.seq (.ops [3,4] [co 7 (.bin .eql (.t 3) (.c (.v (.string ⟨#[105,110]⟩)))),cm 4 7]) (.cond (.t 4) (.skip) (.seq (.ops [3,4] [co 8 (.bin .eql (.t 3) (.c (.v (.string ⟨#[109,111,100,101]⟩)))),cm 4 8]) (.cond (.t 4) (.skip) (.seq (.ops [3,4] [co 9 (.bin .eql (.t 3) (.c (.v (.string ⟨#[119,104,101,110]⟩)))),cm 4 9]) (.cond (.t 4) (.skip) (.seq (.ops [3,4] [co 10 (.bin .eql (.t 3) (.c (.v (.string ⟨#[114,105,115,101,115]⟩)))),cm 4 10]) (.cond (.t 4) (.skip) (.seq (.ops [3,4] [co 11 (.bin .eql (.t 3) (.c (.v (.string ⟨#[102,97,108,108,115]⟩)))),cm 4 11]) (.cond (.t 4) (.skip) (.seq (.ops [3,4] [co 12 (.bin .eql (.t 3) (.c (.v (.string ⟨#[103,111,116,111]⟩)))),cm 4 12]) (.cond (.t 4) (.skip) (.seq (.ops [3,4] [co 13 (.bin .eql (.t 3) (.c (.v (.string ⟨#[119,105,116,104]⟩)))),cm 4 13]) (.cond (.t 4) (.skip) (.seq (.ops [3,4] [co 14 (.bin .eql (.t 3) (.c (.v (.string ⟨#[116,105,109,101]⟩)))),cm 4 14]) (.cond (.t 4) (.skip) (.seq (.ops [3,4] [co 15 (.bin .eql (.t 3) (.c (.v (.string ⟨#[101,120,112]⟩)))),cm 4 15]) (.cond (.t 4) (.skip) (.seq (.ops [3,4] [co 16 (.bin .eql (.t 3) (.c (.v (.string ⟨#[108,111,103]⟩)))),cm 4 16]) (.cond (.t 4) (.skip) (.seq (.ops [3,4] [co 17 (.bin .eql (.t 3) (.c (.v (.string ⟨#[115,105,110]⟩)))),cm 4 17]) (.cond (.t 4) (.skip) (.seq (.ops [3,4] [co 18 (.bin .eql (.t 3) (.c (.v (.string ⟨#[99,111,115]⟩)))),cm 4 18]) (.cond (.t 4) (.skip) (.ops [4] [co 19 (.bin .eql (.t 3) (.c (.v (.string ⟨#[115,113,114,116]⟩)))),cm 4 19]))))))))))))))))))))))))))))) (.cond (.t 4) (.seq (.ops [2] [co 2 (.mv (.c (B true)))]) (.ret)) (.skip))))) (.seq (.ops [2] [co 2 (.mv (.c (B false)))]) (.ret)))
def tu:FD:=⟨1,[[]],[.t 2],DE⟩
def x7:Cmd:=.seq (.seq (.ops [0,4,18] [cm 16 0,co 17 (.len false (.t 16)),co 18 (.bin .gtr (.t 17) (.c (I 0)))]) (.cond (.t 18) (.skip) (.exit 0))) (.block 1 [0,4] (.seq (.ops [4,5,6] [cm 20 0,ca 21 F.natural_short [.t 20,.c (U 1000000000)],cm 19 21,co 22 (.ext 0 (.t 19)),co 23 (.ext 1 (.t 19)),cm 5 22,cm 6 23]) (.seq (.ops [0,4,6] [cm 24 5,ca 25 F.natural_trim [.t 24],cm 0 25]) (.seq (.ops [0,4,7] [cm 26 6,co 27 (.cv .u64 (.t 26)),ca 28 F.strconv_FormatUint [.t 27,.c (I 10)],cm 7 28]) (.seq (.seq (.ops [0,4,7,31] [cm 29 0,co 30 (.len false (.t 29)),co 31 (.bin .gtr (.t 30) (.c (I 0)))]) (.cond (.t 31) (.ops [0,4,7] [cm 32 7,co 33 (.len true (.t 32)),co 34 (.bin .sub (.c (I 9)) (.t 33)),ca 35 F.strings_Repeat [.c (.v (.string ⟨#[48]⟩)),.t 34],cm 36 7,b2 37 .add 35 36,cm 7 37]) (.skip))) (.ops [0,4] [cm 38 4,cm 39 7,⟨(some 40),none,.buildSl 1 [.v (.string ⟨#[]⟩)] 1 [(0,.t 39)]⟩,⟨(some 41),none,.app 1 16 (.t 38) (.t 40)⟩,cm 4 41]))))))
def B1:Cmd:=.seq (.ops [0] [co 2 (.mv (.c (.v (.string ⟨#[]⟩)))),co 3 (.mv (.c (I 0)))]) (.seq (.seq (.ops [0,10] [cm 8 0,⟨(some 9),none,.buildSl 1 [.emp] 1 [(0,.t 8)]⟩,ca 10 F.natural_long [.t 9]]) (.cond (.t 10) (.seq (.ops [2,3] [co 2 (.mv (.c (.v (.string ⟨#[]⟩)))),co 3 (.mv (.c (I 9)))]) (.ret)) (.skip))) (.seq (.ops [0] [cm 11 0,ca 12 F.natural_trim [.t 11],cm 0 12]) (.seq (.seq (.ops [0,15] [cm 13 0,co 14 (.len false (.t 13)),co 15 (.bin .eql (.t 14) (.c (I 0)))]) (.cond (.t 15) (.seq (.ops [2,3] [co 2 (.mv (.c (.v (.string ⟨#[48]⟩)))),co 3 (.mv (.c (I 0)))]) (.ret)) (.skip))) (.seq (.ops [0,4] [co 4 (.mv (.c .emp))]) (.seq (.block 0 [4] (.loop [0,4] [41] x7)) (.seq (.ops [4] [cm 42 4,ca 43 F.slices_Reverse_string_string_ [.t 42]]) (.seq (.ops [2,3] [cm 44 4,ca 45 F.strings_Join [.t 44,.c (.v (.string ⟨#[]⟩))],cm 2 45,co 3 (.mv (.c (I 0)))]) (.ret))))))))
def sq:FD:=⟨1,[[],[]],[.t 2,.t 3],B1⟩
def oT:Cmd:=.seq (.ops [0,1] [co 4 (.mv (.c (I 0))),co 5 (.mv (.c (.v .nilIface)))]) (.seq (.ops [0,1] [cm 6 0,ca 7 F.strings_Builder_copyCheck [.t 6]]) (.seq (.ops [1] [cm 8 0,cm 9 0,nk 10 9,fa 11 1 10,ld 12 1 11,cm 13 1,⟨(some 14),none,.bad⟩,nk 15 8,fa 16 1 15,sr 1 (.t 16) (.t 14)]) (.seq (.ops [4,5] [cm 17 1,co 18 (.len true (.t 17)),cm 4 18,co 5 (.mv (.c (.v .nilIface)))]) (.ret))))
def iz:FD:=⟨2,[[],[]],[.t 4,.t 5],oT⟩
def rD:Cmd:=.seq (.ops [0] [co 2 (.mv (.c (.v (.string ⟨#[]⟩))))]) (.seq (.dops [2] [cm 3 0,nk 4 3,fa 5 1 4,ld 6 1 5,⟨(some 7),none,.bad⟩,cm 8 0,nk 9 8,fa 10 1 9,ld 11 1 10,co 12 (.len false (.t 11)),⟨(some 13),none,.bad⟩,cm 2 13] [(4,8)]) (.ret))
def kY:FD:=⟨1,[[]],[.t 2],rD⟩
def rU:Cmd:=.seq (.ops [0] [co 2 (.mv (.c (.v (.string ⟨#[]⟩))))]) (.seq (.ops [2] [cm 3 0,ca 4 F.internal_strconv_FormatInt [.t 3,.c (I 10)],cm 2 4]) (.ret))
def lL:FD:=⟨1,[[]],[.t 2],rU⟩
def air:Cmd:=.seq (.seq (.ops [3,5,6,29] [cm 25 6,fa 26 0 3,ld 27 1 26,co 28 (.len false (.t 27)),b2 29 .lss 25 28]) (.cond (.t 29) (.skip) (.exit 0))) (.seq (.block 1 [3,5,6] (.seq (.seq (.ops [3,5,6,45] [fa 32 0 3,ld 33 1 32,cm 34 6,co 35 (.iadrS 1 (.t 33) (.t 34)),ld 36 1 35,co 37 (.bin .lss (.t 36) (.c (I 0))),cm 38 37,cg 39 38 false (.fadr 0 (.t 3)),⟨(some 40),(some (38,false)),.load 1 false (.t 39)⟩,cg 41 38 false (.mv (.t 6)),cg 42 38 false (.iadrS 1 (.t 40) (.t 41)),⟨(some 43),(some (38,false)),.load 1 false (.t 42)⟩,cg 44 38 false (.bin .gtr (.t 43) (.c (I 32))),co 45 (.pick (.t 38) (.c (B true)) (.t 44))]) (.cond (.t 45) (.seq (.ops [4] [co 4 (.mv (.c (B false)))]) (.ret)) (.skip))) (.ops [3,5,6] [cm 46 5,fa 47 0 3,ld 48 1 47,cm 49 6,co 50 (.iadrS 1 (.t 48) (.t 49)),ld 51 1 50,b2 52 .add 46 51,cm 5 52]))) (.ops [3,5,6] [cm 30 6,co 31 (.bin .add (.t 30) (.c (I 1))),cm 6 31]))
def ajH:Cmd:=.seq (.ops [0,3] [bx 3 4 (.t 1),co 4 (.mv (.c (B false)))]) (.seq (.seq (.ops [3,24] [fa 7 0 3,ld 8 1 7,co 9 (.len false (.t 8)),cm 10 0,b2 11 .neq 9 10,cm 12 11,cg 13 12 false (.fadr 1 (.t 3)),⟨(some 14),(some (12,false)),.load 3 true (.t 13)⟩,⟨(some 15),(some (12,false)),.call (.c (.fn F.r02_Valid [] [])) [.t 14]⟩,cg 16 12 false (.un .not (.t 15)),co 17 (.pick (.t 12) (.c (B true)) (.t 16)),cm 18 17,cg 19 18 false (.fadr 1 (.t 3)),cg 20 18 false (.fadr 1 (.t 19)),⟨(some 21),(some (18,false)),.load 1 false (.t 20)⟩,cg 22 18 false (.len false (.t 21)),cg 23 18 false (.bin .eql (.t 22) (.c (I 0))),co 24 (.pick (.t 18) (.c (B true)) (.t 23))]) (.cond (.t 24) (.seq (.ops [4] [co 4 (.mv (.c (B false)))]) (.ret)) (.skip))) (.seq (.ops [3,5] [co 5 (.mv (.c (I 0)))]) (.seq (.seq (.ops [3,5,6] [co 6 (.mv (.c (I 0)))]) (.block 0 [5] (.loop [3,5,6] [3] air))) (.seq (.ops [4] [cm 53 5,co 54 (.bin .leq (.t 53) (.c (I 32))),cm 4 54]) (.ret)))))
def aiQ:FD:=⟨2,[[]],[.t 4],ajH⟩
def aS:Cmd:=.seq (.seq (.ops [0,1,2,8,9,10,17] [cm 15 9,cm 16 10,b2 17 .lss 15 16]) (.cond (.t 17) (.skip) (.exit 0))) (.block 1 [0,1,2,8,9,10] (.seq (.ops [0,1,2,8,9,10,11] [cm 18 9,cm 19 10,b2 20 .add 18 19,co 21 (.cv .u64 (.t 20)),co 22 (.bin .shr (.t 21) (.c (W 1))),co 23 (.cv .i64 (.t 22)),cm 11 23]) (.seq (.ops [0,1,2,8,9,10,11,31] [cm 24 2,cm 25 0,cm 26 11,co 27 (.iadrS 4 (.t 25) (.t 26)),la 28 4 27,cm 29 1,⟨(some 30),none,.call (.t 24) [.t 28,.t 29]⟩,co 31 (.bin .lss (.t 30) (.c (I 0)))]) (.cond (.t 31) (.ops [0,1,2,8,9,10] [cm 32 11,co 33 (.bin .add (.t 32) (.c (I 1))),cm 9 33]) (.ops [0,1,2,8,9,10] [cm 34 11,cm 10 34])))))
def cV:Cmd:=.seq (.ops [0,1,2] [co 6 (.mv (.c (I 0))),co 7 (.mv (.c (B false)))]) (.seq (.ops [0,1,2,8] [cm 12 0,co 13 (.len false (.t 12)),cm 8 13]) (.seq (.ops [0,1,2,8,9,10] [cm 14 8,co 9 (.mv (.c (I 0))),cm 10 14]) (.seq (.block 0 [0,1,2,8,9] (.loop [0,1,2,8,9,10] [] aS)) (.seq (.ops [6,7] [cm 35 9,cm 36 9,cm 37 8,b2 38 .lss 36 37,cm 39 38,cg 40 39 true (.mv (.t 2)),cg 41 39 true (.mv (.t 0)),cg 42 39 true (.mv (.t 9)),cg 43 39 true (.iadrS 4 (.t 41) (.t 42)),⟨(some 44),(some (39,true)),.load 4 true (.t 43)⟩,cg 45 39 true (.mv (.t 1)),⟨(some 46),(some (39,true)),.call (.t 40) [.t 44,.t 45]⟩,cg 47 39 true (.bin .eql (.t 46) (.c (I 0))),co 48 (.pick (.t 39) (.t 47) (.c (B false))),cm 6 35,cm 7 48]) (.ret)))))
def bg:FD:=⟨3,[[],[]],[.t 6,.t 7],cV⟩
def mP:Cmd:=.seq (.ops [1,2] [bx 2 4 (.t 0),co 4 (.mv (.c (I 0)))]) (.seq (.ops [4] [fa 5 0 2,ld 6 1 5,cm 7 1,ca 8 F.poly_order [.t 6,.t 7],cm 4 8]) (.ret))
def eH:FD:=⟨2,[[]],[.t 4],mP⟩
def bE:Cmd:=.seq (.ops [0,1,2] [co 6 (.mv (.c .emp))]) (.seq (.ops [0,1,2] [cm 10 0,cm 11 1,co 12 (.slc 4 (.t 10) (some (.t 11)) none none)]) (.seq (.ops [0,1,2,7] [cm 13 2,co 14 (.len false (.t 13)),cm 7 14]) (.seq (.seq (.ops [0,1,2,7,16] [cm 15 7,co 16 (.bin .eql (.t 15) (.c (I 0)))]) (.cond (.t 16) (.seq (.ops [6] [cm 17 0,cm 6 17]) (.ret)) (.skip))) (.seq (.ops [0,1,2,7,8] [cm 18 0,co 19 (.len false (.t 18)),cm 8 19]) (.seq (.seq (.ops [0,1,2,7,8,22] [cm 20 1,cm 21 8,b2 22 .eql 20 21]) (.cond (.t 22) (.seq (.ops [6] [cm 23 0,cm 24 2,⟨(some 25),none,.app 4 64 (.t 23) (.t 24)⟩,cm 6 25]) (.ret)) (.skip))) (.seq (.seq (.ops [0,1,2,7,8,31] [cm 26 8,cm 27 7,b2 28 .add 26 27,cm 29 0,co 30 (.capp (.t 29)),b2 31 .gtr 28 30]) (.cond (.t 31) (.seq (.ops [0,1,2,7,9] [cm 32 0,cm 33 1,co 34 (.slc 4 (.t 32) none (some (.t 33)) none),cm 35 8,cm 36 7,b2 37 .add 35 36,cm 38 1,b2 39 .sub 37 38,⟨(some 40),none,.appz 4 64 [.emp,B false,.emp,I 0] (.t 34) (.t 39)⟩,cm 9 40]) (.seq (.ops [0,1,7,9] [cm 41 9,cm 42 1,co 43 (.slc 4 (.t 41) (some (.t 42)) none none),cm 44 2,⟨(some 45),none,.cpy 4 (.t 43) (.t 44)⟩]) (.seq (.dops [9] [cm 46 9,cm 47 1,cm 48 7,b2 49 .add 47 48,co 50 (.slc 4 (.t 46) (some (.t 49)) none none),cm 51 0,cm 52 1,co 53 (.slc 4 (.t 51) (some (.t 52)) none none),⟨(some 54),none,.cpy 4 (.t 50) (.t 53)⟩] []) (.seq (.ops [6] [cm 55 9,cm 6 55]) (.ret))))) (.skip))) (.seq (.ops [0,1,2,7,8] [cm 56 0,cm 57 8,cm 58 7,b2 59 .add 57 58,co 60 (.slc 4 (.t 56) none (some (.t 59)) none),cm 0 60]) (.seq (.seq (.ops [0,1,2,7,8,68] [cm 61 2,cm 62 0,cm 63 1,cm 64 7,b2 65 .add 63 64,co 66 (.slc 4 (.t 62) (some (.t 65)) none none),ca 67 F.slices_overlaps_api_Term_ [.t 61,.t 66],co 68 (.un .not (.t 67))]) (.cond (.t 68) (.seq (.dops [0,1,2] [cm 69 0,cm 70 1,cm 71 7,b2 72 .add 70 71,co 73 (.slc 4 (.t 69) (some (.t 72)) none none),cm 74 0,cm 75 1,co 76 (.slc 4 (.t 74) (some (.t 75)) none none),⟨(some 77),none,.cpy 4 (.t 73) (.t 76)⟩] []) (.seq (.ops [0] [cm 78 0,cm 79 1,co 80 (.slc 4 (.t 78) (some (.t 79)) none none),cm 81 2,⟨(some 82),none,.cpy 4 (.t 80) (.t 81)⟩]) (.seq (.frz [200000] (.ops [6] [cm 83 0,cm 6 83])) (.ret)))) (.skip))) (.seq (.ops [0,1,7] [cm 84 0,cm 85 8,co 86 (.slc 4 (.t 84) (some (.t 85)) none none),cm 87 2,⟨(some 88),none,.cpy 4 (.t 86) (.t 87)⟩]) (.seq (.ops [0] [cm 89 0,cm 90 1,co 91 (.slc 4 (.t 89) (some (.t 90)) none none),cm 92 7,ca 93 F.slices_rotateRight_api_Term_ [.t 91,.t 92]]) (.seq (.ops [6] [cm 94 0,cm 6 94]) (.ret))))))))))))
def aH:FD:=⟨3,[[]],[.t 6],bE⟩
def afl:Cmd:=.seq (.ops [1,2] [bx 1 3 (.t 0),al 2 [B false,.emp,I 0]]) (.seq (.ops [1,2] [fa 3 1 1,ld 4 1 3,ca 5 F.slices_Clone_uint32_uint32_ [.t 4],fa 6 1 1,sr 1 (.t 6) (.t 5)]) (.seq (.ops [2] [la 7 3 1,sr 3 (.t 2) (.t 7)]) (.ret)))
def l7:FD:=⟨1,[[.o 0 [],.o 2 [],.o 0 []]],[.cell 2 3 true],afl⟩
def fT:Cmd:=.seq (.ops [0,1,2] [co 6 (.mv (.c .emp))]) (.seq (.ops [0,1,2] [cm 8 0,cm 9 1,cm 10 2,cm 11 0,co 12 (.len false (.t 11)),co 13 (.slc 4 (.t 8) (some (.t 9)) (some (.t 10)) (some (.t 12)))]) (.seq (.seq (.ops [0,1,2,16] [cm 14 1,cm 15 2,b2 16 .eql 14 15]) (.cond (.t 16) (.seq (.ops [6] [cm 17 0,cm 6 17]) (.ret)) (.skip))) (.seq (.ops [0,1,2,7] [cm 18 0,co 19 (.len false (.t 18)),cm 7 19]) (.seq (.dops [0,7] [cm 20 0,cm 21 1,co 22 (.slc 4 (.t 20) none (some (.t 21)) none),cm 23 0,cm 24 2,co 25 (.slc 4 (.t 23) (some (.t 24)) none none),⟨(some 26),none,.app 4 64 (.t 22) (.t 25)⟩,cm 0 26] []) (.seq (.ops [0] [cm 27 0,cm 28 0,co 29 (.len false (.t 28)),cm 30 7,⟨(some 31),none,.slcM 4 (.t 27) (some (.t 29)) (some (.t 30))⟩,⟨none,none,.clr 4 [.emp,B false,.emp,I 0] (.t 31)⟩]) (.seq (.frz [100000,200000] (.ops [6] [cm 32 0,cm 6 32])) (.ret)))))))
def cd:FD:=⟨3,[[]],[.t 6],fT⟩
def dM:Cmd:=.seq (.ops [0,1] [co 4 (.mv (.c .emp))]) (.seq (.seq (.ops [0,1,6] [cm 5 1,co 6 (.bin .lss (.t 5) (.c (I 0)))]) (.cond (.t 6) (.ops [0,1] [⟨(some 7),none,.bad⟩,⟨none,none,.bad⟩]) (.skip))) (.seq (.seq (.frz [100000] (.ops [0,1] [cm 8 1,cm 9 0,co 10 (.capp (.t 9)),cm 11 0,co 12 (.len false (.t 11)),b2 13 .sub 10 12,b2 14 .sub 8 13,cm 1 14])) (.seq (.ops [0,1,16] [cm 15 1,co 16 (.bin .gtr (.t 15) (.c (I 0)))]) (.cond (.t 16) (.frz [100000] (.ops [0] [cm 17 0,cm 18 0,co 19 (.capp (.t 18)),co 20 (.slc 4 (.t 17) none (some (.t 19)) none),cm 21 1,⟨(some 22),none,.appz 4 64 [.emp,B false,.emp,I 0] (.t 20) (.t 21)⟩,cm 23 0,co 24 (.len false (.t 23)),co 25 (.slc 4 (.t 22) none (some (.t 24)) none),cm 0 25])) (.skip)))) (.seq (.frz [100000] (.ops [4] [cm 26 0,cm 4 26])) (.ret))))
def bK:FD:=⟨2,[[]],[.t 4],dM⟩
def kD:Cmd:=.seq (.ops [1] [bx 1 3 (.t 0),co 2 (.mv (.c (I 0)))]) (.seq (.block 0 [] (.seq (.ops [1,3] [la 4 3 1,ca 5 F.dyadic_Valid [.t 4],co 6 (.un .not (.t 5)),cm 7 6,cg 8 7 false (.fadr 1 (.t 1)),⟨(some 9),(some (7,false)),.load 1 false (.t 8)⟩,cg 10 7 false (.len false (.t 9)),cg 11 7 false (.bin .eql (.t 10) (.c (I 0))),co 12 (.pick (.t 7) (.c (B true)) (.t 11)),cm 3 12]) (.cond (.t 3) (.seq (.ops [2] [co 2 (.mv (.c (I 0)))]) (.ret)) (.seq (.ops [13] [fa 14 0 1,ld 15 1 14,cm 13 15]) (.cond (.t 13) (.seq (.ops [2] [co 2 (.mv (.c (I (-1))))]) (.ret)) (.skip)))))) (.seq (.ops [2] [co 2 (.mv (.c (I 1)))]) (.ret)))
def eQ:FD:=⟨1,[[]],[.t 2],kD⟩
def jX:Cmd:=.seq (.ops [2,3] [bx 2 3 (.t 0),bx 3 3 (.t 1),co 4 (.mv (.c (I 0)))]) (.seq (.dops [2,3,5,6] [la 8 3 2,ca 9 F.dyadic_Top [.t 8],la 10 3 3,ca 11 F.dyadic_Top [.t 10],cm 5 9,cm 6 11] [(1,2)]) (.seq (.block 0 [2,3] (.seq (.ops [2,3,5,6,12] [cm 13 5,cm 14 6,b2 15 .lss 13 14,cm 12 15]) (.cond (.t 12) (.seq (.ops [4] [co 4 (.mv (.c (I (-1))))]) (.ret)) (.seq (.ops [2,3,16] [cm 17 5,cm 18 6,b2 19 .gtr 17 18,cm 16 19]) (.cond (.t 16) (.seq (.ops [4] [co 4 (.mv (.c (I 1)))]) (.ret)) (.skip)))))) (.seq (.ops [2,3,7] [fa 20 2 2,ld 21 1 20,fa 22 2 3,ld 23 1 22,co 24 (.mnx true (.t 21) [.t 23]),cm 7 24]) (.seq (.dops [4] [fa 25 1 2,ld 26 1 25,fa 27 2 2,ld 28 1 27,cm 29 7,b2 30 .sub 28 29,ca 31 F.dyadic_shifted [.t 26,.t 30],fa 32 1 3,ld 33 1 32,fa 34 2 3,ld 35 1 34,cm 36 7,b2 37 .sub 35 36,ca 38 F.dyadic_shifted [.t 33,.t 37],ca 39 F.natural_Cmp [.t 31,.t 38],cm 4 39] [(6,8),(6,10)]) (.ret)))))
def ew:FD:=⟨2,[[]],[.t 4],jX⟩
def aeG:Cmd:=.seq (.ops [0,1,7,8,9] [b2 9 .lss 8 7]) (.seq (.cond (.t 9) (.skip) (.exit 0)) (.seq (.block 1 [0,1,7,8] (.seq (.ops [0,1,5,7,8] [cm 10 8,cm 5 10]) (.seq (.ops [0,1,5,7,8,16] [cm 11 1,cm 12 0,cm 13 5,co 14 (.iadrS 3 (.t 12) (.t 13)),la 15 3 14,⟨(some 16),none,.call (.t 11) [.t 15]⟩]) (.cond (.t 16) (.seq (.ops [4] [cm 17 5,cm 4 17]) (.ret)) (.skip))))) (.ops [0,1,7,8] [co 18 (.bin .add (.t 8) (.c (I 1))),cm 8 18])))
def aeO:Cmd:=.seq (.ops [0,1] [co 4 (.mv (.c (I 0)))]) (.seq (.seq (.ops [0,1,7,8] [cm 6 0,co 7 (.len false (.t 6)),co 8 (.mv (.c (I 0)))]) (.block 0 [] (.loop [0,1,7,8] [] aeG))) (.seq (.ops [4] [co 4 (.mv (.c (I (-1))))]) (.ret)))
def adS:FD:=⟨2,[[]],[.t 4],aeO⟩
def eR:Cmd:=.seq (.ops [1] [bx 1 3 (.t 0),co 2 (.mv (.c (B false)))]) (.seq (.ops [1,3] [fa 4 1 1,ld 5 1 4,ca 6 F.dyadic_size [.t 5],cm 3 6]) (.seq (.ops [2] [cm 7 3,co 8 (.bin .eql (.t 7) (.c (I 0))),cm 9 8,cg 10 9 false (.mv (.t 3)),cg 11 9 false (.bin .leq (.t 10) (.c (I 4096))),cg 12 9 false (.mv (.t 11)),cg 13 12 true (.fadr 2 (.t 1)),⟨(some 14),(some (12,true)),.load 1 false (.t 13)⟩,cg 15 12 true (.bin .geq (.t 14) (.c (I (-16384)))),cg 16 9 false (.pick (.t 12) (.t 15) (.c (B false))),cg 17 9 false (.mv (.t 16)),cg 18 17 true (.fadr 2 (.t 1)),⟨(some 19),(some (17,true)),.load 1 false (.t 18)⟩,cg 20 17 true (.bin .leq (.t 19) (.c (I 16384))),cg 21 9 false (.pick (.t 17) (.t 20) (.c (B false))),cg 22 9 false (.mv (.t 21)),cg 23 22 true (.mv (.t 3)),cg 24 22 true (.fadr 2 (.t 1)),⟨(some 25),(some (22,true)),.load 1 false (.t 24)⟩,cg 26 22 true (.bin .add (.t 23) (.t 25)),cg 27 22 true (.bin .leq (.t 26) (.c (I 16384))),cg 28 9 false (.pick (.t 22) (.t 27) (.c (B false))),co 29 (.pick (.t 9) (.c (B true)) (.t 28)),cm 2 29]) (.ret)))
def cI:FD:=⟨1,[[]],[.t 2],eR⟩
def oG:Cmd:=.seq (.ops [1] [bx 1 3 (.t 0),co 2 (.mv (.c (I 0)))]) (.seq (.seq (.ops [1,11] [la 3 3 1,ca 4 F.dyadic_Valid [.t 3],co 5 (.un .not (.t 4)),cm 6 5,cg 7 6 false (.fadr 1 (.t 1)),⟨(some 8),(some (6,false)),.load 1 false (.t 7)⟩,cg 9 6 false (.len false (.t 8)),cg 10 6 false (.bin .eql (.t 9) (.c (I 0))),co 11 (.pick (.t 6) (.c (B true)) (.t 10))]) (.cond (.t 11) (.seq (.ops [2] [co 2 (.mv (.c (I 0)))]) (.ret)) (.skip))) (.seq (.dops [2] [fa 12 1 1,ld 13 1 12,ca 14 F.dyadic_size [.t 13],fa 15 2 1,ld 16 1 15,b2 17 .add 14 16,cm 2 17] [(2,4)]) (.ret)))
def ik:FD:=⟨1,[[]],[.t 2],oG⟩
def rF:Cmd:=.seq (.ops [0,1] [co 4 (.mv (.c .emp))]) (.seq (.ops [5] [cm 8 0,cm 9 1,ca 10 F.natural_Shl [.t 8,.t 9],cm 7 10,co 11 (.ext 0 (.t 7)),co 12 (.ext 1 (.t 7)),cm 5 11,cm 6 12]) (.seq (.ops [4] [cm 13 5,cm 4 13]) (.ret)))
def i8:FD:=⟨2,[[.o 2 []]],[.t 4],rF⟩
def qy:Cmd:=.seq (.ops [0,1] [co 4 (.mv (.c .emp)),co 5 (.mv (.c (I 0)))]) (.seq (.seq (.ops [0,1,9] [cm 6 0,cm 7 1,⟨(some 8),none,.buildSl 1 [.emp] 2 [(0,.t 6),(1,.t 7)]⟩,ca 9 F.natural_long [.t 8]]) (.cond (.t 9) (.seq (.ops [4,5] [co 4 (.mv (.c .emp)),co 5 (.mv (.c (I 9)))]) (.ret)) (.skip))) (.seq (.ops [4,5] [cm 10 0,cm 11 1,ca 12 F.natural_add [.t 10,.t 11],ca 13 F.natural_done [.t 12],co 14 (.ext 0 (.t 13)),co 15 (.ext 1 (.t 13)),cm 4 14,cm 5 15]) (.ret)))
def jp:FD:=⟨2,[[.o 2 []],[]],[.t 4,.t 5],qy⟩
def dN:Cmd:=.seq (.seq (.ops [0,1,5,24] [cm 23 5,co 24 (.bin .geq (.t 23) (.c (I 0)))]) (.cond (.t 24) (.skip) (.exit 0))) (.seq (.block 1 [0,1,5] (.block 2 [0,1,5] (.seq (.dops [0,1,5,27] [cm 28 0,cm 29 5,co 30 (.iadrS 1 (.t 28) (.t 29)),ld 31 1 30,cm 32 1,cm 33 5,co 34 (.iadrS 1 (.t 32) (.t 33)),ld 35 1 34,b2 36 .lss 31 35,cm 27 36] []) (.cond (.t 27) (.seq (.ops [4] [co 4 (.mv (.c (I (-1))))]) (.ret)) (.seq (.dops [0,1,5,37] [cm 38 0,cm 39 5,co 40 (.iadrS 1 (.t 38) (.t 39)),ld 41 1 40,cm 42 1,cm 43 5,co 44 (.iadrS 1 (.t 42) (.t 43)),ld 45 1 44,b2 46 .gtr 41 45,cm 37 46] []) (.cond (.t 37) (.seq (.ops [4] [co 4 (.mv (.c (I 1)))]) (.ret)) (.skip))))))) (.ops [0,1,5] [cm 25 5,co 26 (.bin .sub (.t 25) (.c (I 1))),cm 5 26]))
def vz:Cmd:=.seq (.ops [0,1] [co 4 (.mv (.c (I 0)))]) (.seq (.ops [0,1] [cm 6 0,ca 7 F.natural_trim [.t 6],cm 8 1,ca 9 F.natural_trim [.t 8],cm 0 7,cm 1 9]) (.seq (.seq (.ops [0,1,14] [cm 10 0,co 11 (.len false (.t 10)),cm 12 1,co 13 (.len false (.t 12)),b2 14 .neq 11 13]) (.cond (.t 14) (.seq (.seq (.ops [19] [cm 15 0,co 16 (.len false (.t 15)),cm 17 1,co 18 (.len false (.t 17)),b2 19 .lss 16 18]) (.cond (.t 19) (.seq (.ops [4] [co 4 (.mv (.c (I (-1))))]) (.ret)) (.skip))) (.seq (.ops [4] [co 4 (.mv (.c (I 1)))]) (.ret))) (.skip))) (.seq (.seq (.ops [0,1,5] [cm 20 0,co 21 (.len false (.t 20)),co 22 (.bin .sub (.t 21) (.c (I 1))),cm 5 22]) (.block 0 [] (.loop [0,1,5] [] dN))) (.seq (.ops [4] [co 4 (.mv (.c (I 0)))]) (.ret)))))
def gD:FD:=⟨2,[[]],[.t 4],vz⟩
def m5:Cmd:=.seq (.ops [0,1] [co 4 (.mv (.c .emp)),co 5 (.mv (.c (I 0)))]) (.seq (.block 0 [0,1] (.seq (.ops [0,1,6] [cm 7 0,cm 8 1,⟨(some 9),none,.buildSl 1 [.emp] 2 [(0,.t 7),(1,.t 8)]⟩,ca 10 F.natural_long [.t 9],cm 6 10]) (.cond (.t 6) (.seq (.ops [4,5] [co 4 (.mv (.c .emp)),co 5 (.mv (.c (I 9)))]) (.ret)) (.seq (.ops [0,1,11] [cm 12 0,cm 13 1,ca 14 F.natural_Cmp [.t 12,.t 13],co 15 (.bin .lss (.t 14) (.c (I 0))),cm 11 15]) (.cond (.t 11) (.seq (.ops [4,5] [co 4 (.mv (.c .emp)),co 5 (.mv (.c (I 2)))]) (.ret)) (.skip)))))) (.seq (.ops [4,5] [cm 16 0,cm 17 1,ca 18 F.natural_sub [.t 16,.t 17],ca 19 F.natural_done [.t 18],co 20 (.ext 0 (.t 19)),co 21 (.ext 1 (.t 19)),cm 4 20,cm 5 21]) (.ret)))
def gE:FD:=⟨2,[[.o 2 []],[]],[.t 4,.t 5],m5⟩
def iU:Cmd:=.seq (.ops [0] [co 2 (.mv (.c .emp))]) (.seq (.seq (.ops [0,4] [cm 3 0,co 4 (.nilq false (.t 3))]) (.cond (.t 4) (.seq (.ops [2] [co 2 (.mv (.c .emp))]) (.ret)) (.skip))) (.seq (.ops [2] [⟨(some 5),none,.buildSl 1 [U 0] 0 []⟩,cm 6 0,⟨(some 7),none,.app 1 4 (.t 5) (.t 6)⟩,cm 2 7]) (.ret)))
def cM:FD:=⟨1,[[.o 2 []]],[.t 2],iU⟩
def pq:Cmd:=.seq (.ops [0] [co 2 (.mv (.c (I 0)))]) (.seq (.ops [0] [cm 3 0,ca 4 F.natural_trim [.t 3],cm 0 4]) (.seq (.seq (.ops [0,7] [cm 5 0,co 6 (.len false (.t 5)),co 7 (.bin .eql (.t 6) (.c (I 0)))]) (.cond (.t 7) (.seq (.ops [2] [co 2 (.mv (.c (I 0)))]) (.ret)) (.skip))) (.seq (.ops [2] [cm 8 0,co 9 (.len false (.t 8)),co 10 (.bin .sub (.t 9) (.c (I 1))),co 11 (.bin .mul (.c (I 32)) (.t 10)),cm 12 0,cm 13 0,co 14 (.len false (.t 13)),co 15 (.bin .sub (.t 14) (.c (I 1))),co 16 (.iadrS 1 (.t 12) (.t 15)),ld 17 1 16,ca 18 F.bits_Len32 [.t 17],b2 19 .add 11 18,cm 2 19]) (.ret))))
def iC:FD:=⟨1,[[]],[.t 2],pq⟩
def tv:Cmd:=.seq (.ops [0] [co 2 (.mv (.c (B false)))]) (.seq (.ops [2] [cm 3 0,ca 4 F.slices_ContainsFunc_Suint32_Suint32_ [.t 3,.c (.fn F.natural_long_1 [] [])],cm 2 4]) (.ret))
def kZ:FD:=⟨1,[[]],[.t 2],tv⟩
def pt:Cmd:=.seq (.ops [0] [co 2 (.mv (.c .emp)),co 3 (.mv (.c (I 0)))]) (.seq (.ops [0] [cm 4 0,ca 5 F.natural_trim [.t 4],cm 0 5]) (.seq (.seq (.ops [0,8] [cm 6 0,⟨(some 7),none,.buildSl 1 [.emp] 1 [(0,.t 6)]⟩,ca 8 F.natural_long [.t 7]]) (.cond (.t 8) (.seq (.ops [2,3] [co 2 (.mv (.c .emp)),co 3 (.mv (.c (I 9)))]) (.ret)) (.skip))) (.seq (.ops [2,3] [cm 9 0,ca 10 F.slices_Clip_uint32_uint32_ [.t 9],cm 2 10,co 3 (.mv (.c (I 0)))]) (.ret))))
def iD:FD:=⟨1,[[.o 2 []],[]],[.t 2,.t 3],pt⟩
def jY:Cmd:=.seq (.ops [1,5,6,7,8,18,19,20,25,26,27,28] [b2 28 .lss 27 26]) (.seq (.cond (.t 28) (.skip) (.exit 2)) (.seq (.block 3 [1,5,6,7,8,18,19,20,25,26,27] (.seq (.ops [1,5,6,7,8,9,10,18,19,20,25,26,27] [cm 29 27,co 30 (.iadrS 1 (.t 25) (.t 27)),ld 31 1 30,cm 9 29,cm 10 31]) (.seq (.ops [1,5,6,7,9,11,18,19,20,25,26,27] [cm 32 7,co 33 (.cv .u64 (.t 32)),cm 34 10,co 35 (.cv .u64 (.t 34)),b2 36 .mul 33 35,cm 37 5,cm 38 6,cm 39 9,b2 40 .add 38 39,co 41 (.iadrS 1 (.t 37) (.t 40)),ld 42 1 41,co 43 (.cv .u64 (.t 42)),b2 44 .add 36 43,cm 45 8,b2 46 .add 44 45,cm 11 46]) (.ops [1,5,6,7,8,18,19,20,25,26,27] [cm 47 5,cm 48 6,cm 49 9,b2 50 .add 48 49,cm 51 11,co 52 (.cv .u32 (.t 51)),cm 53 11,co 54 (.bin .shr (.t 53) (.c (W 32))),co 55 (.iadrS 1 (.t 47) (.t 50)),sr 1 (.t 55) (.t 52),cm 8 54])))) (.ops [1,5,6,7,8,18,19,20,25,26,27] [co 56 (.bin .add (.t 27) (.c (I 1))),cm 27 56])))
def jZ:Cmd:=.seq (.ops [1,5,18,19,20,21] [b2 21 .lss 20 19]) (.seq (.cond (.t 21) (.skip) (.exit 0)) (.seq (.block 1 [1,5,18,19,20] (.seq (.ops [1,5,6,7,18,19,20] [cm 22 20,co 23 (.iadrS 1 (.t 18) (.t 20)),ld 24 1 23,cm 6 22,cm 7 24]) (.seq (.ops [1,5,6,7,8,18,19,20] [co 8 (.mv (.c (W 0)))]) (.seq (.seq (.ops [1,5,6,7,8,18,19,20,25,26,27] [cm 25 1,co 26 (.len false (.t 25)),co 27 (.mv (.c (I 0)))]) (.block 2 [1,5,6,8,18,19,20] (.loop [1,5,6,7,8,18,19,20,25,26,27] [17] jY))) (.ops [1,5,18,19,20] [cm 57 5,cm 58 6,cm 59 1,co 60 (.len false (.t 59)),b2 61 .add 58 60,cm 62 8,co 63 (.cv .u32 (.t 62)),co 64 (.iadrS 1 (.t 57) (.t 61)),sr 1 (.t 64) (.t 63)]))))) (.ops [1,5,18,19,20] [co 65 (.bin .add (.t 20) (.c (I 1))),cm 20 65])))
def vA:Cmd:=.seq (.ops [0,1] [co 4 (.mv (.c .emp))]) (.seq (.ops [0,1,5] [cm 12 0,co 13 (.len false (.t 12)),cm 14 1,co 15 (.len false (.t 14)),b2 16 .add 13 15,⟨(some 17),none,.mkSl 1 [U 0] 4 (.t 16) (.t 16)⟩,cm 5 17]) (.seq (.seq (.ops [1,5,18,19,20] [cm 18 0,co 19 (.len false (.t 18)),co 20 (.mv (.c (I 0)))]) (.block 0 [5] (.loop [1,5,18,19,20] [17] jZ))) (.seq (.ops [4] [cm 66 5,cm 4 66]) (.ret))))
def l8:FD:=⟨2,[[.o 2 []]],[.t 4],vA⟩
def fU:Cmd:=.seq (.seq (.ops [0,3,15] [cm 6 3,co 7 (.bin .gtr (.t 6) (.c (I 0))),cm 8 7,cg 9 8 true (.mv (.t 0)),cg 10 8 true (.mv (.t 3)),cg 11 8 true (.bin .sub (.t 10) (.c (I 1))),cg 12 8 true (.iadrS 1 (.t 9) (.t 11)),⟨(some 13),(some (8,true)),.load 1 false (.t 12)⟩,cg 14 8 true (.bin .eql (.t 13) (.c (U 0))),co 15 (.pick (.t 8) (.t 14) (.c (B false)))]) (.cond (.t 15) (.skip) (.exit 0))) (.block 1 [0,3] (.ops [0,3] [cm 16 3,co 17 (.bin .sub (.t 16) (.c (I 1))),cm 3 17]))
def tw:Cmd:=.seq (.ops [0] [co 2 (.mv (.c .emp))]) (.seq (.ops [0,3] [cm 4 0,co 5 (.len false (.t 4)),cm 3 5]) (.seq (.block 0 [0,3] (.loop [0,3] [] fU)) (.seq (.ops [2] [cm 18 0,cm 19 3,co 20 (.slc 1 (.t 18) none (some (.t 19)) none),cm 2 20]) (.ret))))
def lg:FD:=⟨1,[[.o 2 []]],[.t 2],tw⟩
def eL:Cmd:=.seq (.seq (.ops [0,3,15] [cm 6 3,co 7 (.bin .gtr (.t 6) (.c (I 0))),cm 8 7,cg 9 8 true (.mv (.t 0)),cg 10 8 true (.mv (.t 3)),cg 11 8 true (.bin .sub (.t 10) (.c (I 1))),cg 12 8 true (.iadrS 1 (.t 9) (.t 11)),⟨(some 13),(some (8,true)),.load 1 false (.t 12)⟩,cg 14 8 true (.bin .eql (.t 13) (.c (U 0))),co 15 (.pick (.t 8) (.t 14) (.c (B false)))]) (.cond (.t 15) (.skip) (.exit 0))) (.block 1 [0,3] (.ops [0,3] [cm 16 3,co 17 (.bin .sub (.t 16) (.c (I 1))),cm 3 17]))
def rG:Cmd:=.seq (.ops [0] [co 2 (.mv (.c .emp))]) (.seq (.ops [0,3] [cm 4 0,co 5 (.len false (.t 4)),cm 3 5]) (.seq (.block 0 [0,3] (.loop [0,3] [] eL)) (.seq (.ops [2] [cm 18 0,cm 19 3,co 20 (.slc 1 (.t 18) none (some (.t 19)) none),cm 2 20]) (.ret))))
def i9:FD:=⟨1,[[.o 2 []]],[.t 2],rG⟩
def lh:Cmd:=.seq (.ops [3,6,7,8,9] [b2 9 .lss 8 7]) (.seq (.cond (.t 9) (.skip) (.exit 0)) (.seq (.block 1 [3,6,7,8] (.seq (.ops [3,5,6,7,8] [co 10 (.iadrS 1 (.t 6) (.t 8)),ld 11 1 10,cm 5 11]) (.seq (.seq (.ops [3,5,6,7,8,13] [cm 12 5,co 13 (.bin .neq (.t 12) (.c (U 0)))]) (.cond (.t 13) (.seq (.ops [2] [cm 14 3,cm 15 5,ca 16 F.bits_TrailingZeros32 [.t 15],b2 17 .add 14 16,cm 2 17]) (.ret)) (.skip))) (.ops [3,6,7,8] [cm 18 3,co 19 (.bin .add (.t 18) (.c (I 32))),cm 3 19])))) (.ops [3,6,7,8] [co 20 (.bin .add (.t 8) (.c (I 1))),cm 8 20])))
def wP:Cmd:=.seq (.ops [0] [co 2 (.mv (.c (I 0)))]) (.seq (.ops [0,3] [co 3 (.mv (.c (I 0)))]) (.seq (.seq (.ops [3,6,7,8] [cm 6 0,co 7 (.len false (.t 6)),co 8 (.mv (.c (I 0)))]) (.block 0 [3] (.loop [3,6,7,8] [] lh))) (.seq (.ops [2] [cm 21 3,cm 2 21]) (.ret))))
def m6:FD:=⟨1,[[]],[.t 2],wP⟩
def m7:Cmd:=.seq (.ops [0,1] [co 4 (.mv (.c .emp)),co 5 (.mv (.c (I 0)))]) (.seq (.block 0 [0,1] (.seq (.ops [0,1,6] [cm 7 0,⟨(some 8),none,.buildSl 1 [.emp] 1 [(0,.t 7)]⟩,ca 9 F.natural_long [.t 8],cm 6 9]) (.cond (.t 6) (.seq (.ops [4,5] [co 4 (.mv (.c .emp)),co 5 (.mv (.c (I 9)))]) (.ret)) (.seq (.ops [0,1,10] [cm 11 1,co 12 (.bin .lss (.t 11) (.c (I 0))),cm 13 12,cg 14 13 false (.mv (.t 1)),cg 15 13 false (.bin .gtr (.t 14) (.c (I 65536))),co 16 (.pick (.t 13) (.c (B true)) (.t 15)),cm 10 16]) (.cond (.t 10) (.seq (.ops [4,5] [co 4 (.mv (.c .emp)),co 5 (.mv (.c (I 2)))]) (.ret)) (.skip)))))) (.seq (.ops [4,5] [cm 17 0,cm 18 1,ca 19 F.natural_shr [.t 17,.t 18],ca 20 F.natural_done [.t 19],co 21 (.ext 0 (.t 20)),co 22 (.ext 1 (.t 20)),cm 4 21,cm 5 22]) (.ret)))
def gF:FD:=⟨2,[[.o 2 []],[]],[.t 4,.t 5],m7⟩
def jq:Cmd:=.seq (.ops [0] [co 2 (.mv (.c .emp))]) (.seq (.ops [2] [cm 3 0,cm 4 0,co 5 (.len false (.t 4)),cm 6 0,co 7 (.len false (.t 6)),co 8 (.slc 1 (.t 3) none (some (.t 5)) (some (.t 7))),cm 2 8]) (.ret))
def cY:FD:=⟨1,[[.o 2 []]],[.t 2],jq⟩
def als:Cmd:=.seq (.ops [1,2,4] [bx 2 3 (.t 0),al 4 [B false,.emp,I 0],co 5 (.mv (.c (I 0)))]) (.seq (.ops [4,5] [la 6 3 2,cm 7 1,ca 8 F.round_round [.t 6,.t 7,.c (B false)],co 9 (.ext 0 (.t 8)),co 10 (.ext 1 (.t 8)),sr 3 (.t 4) (.t 9),cm 5 10]) (.ret))
def ajU:FD:=⟨2,[[.o 0 [],.o 2 [],.o 0 []],[]],[.cell 4 3 true,.t 5],als⟩
def amc:Cmd:=.seq (.ops [1,2,4] [bx 2 3 (.t 0),al 4 [B false,.emp,I 0],co 5 (.mv (.c (I 0)))]) (.seq (.ops [4,5] [la 6 3 2,cm 7 1,ca 8 F.round_round [.t 6,.t 7,.c (B true)],co 9 (.ext 0 (.t 8)),co 10 (.ext 1 (.t 8)),sr 3 (.t 4) (.t 9),cm 5 10]) (.ret))
def akn:FD:=⟨2,[[.o 0 [],.o 2 [],.o 0 []],[]],[.cell 4 3 true,.t 5],amc⟩
def akX:Cmd:=.seq (.ops [1,2,3,6] [bx 3 3 (.t 0),al 6 [B false,.emp,I 0],co 7 (.mv (.c (I 0)))]) (.seq (.ops [1,2,3,6,8] [la 9 3 3,la 10 3 3,cm 11 1,ca 12 F.r03_fault [.t 9,.t 10,.t 11],cm 8 12]) (.seq (.seq (.ops [1,2,3,6,8,14] [cm 13 8,co 14 (.bin .neq (.t 13) (.c (I 0)))]) (.cond (.t 14) (.seq (.ops [6,7] [co 15 (.build [B false,.emp,I 0] []),cm 16 8,sr 3 (.t 6) (.t 15),cm 7 16]) (.ret)) (.skip))) (.seq (.ops [6,7] [la 17 3 3,cm 18 1,cm 19 2,ca 20 F.r03_exact [.t 17,.t 18,.t 19],co 21 (.ext 0 (.t 20)),co 22 (.ext 1 (.t 20)),sr 3 (.t 6) (.t 21),cm 7 22]) (.ret))))
def ajy:FD:=⟨3,[[.o 0 [],.o 2 [],.o 0 []],[]],[.cell 6 3 true,.t 7],akX⟩
def ai2:Cmd:=.seq (.ops [2,3] [bx 2 3 (.t 0),bx 3 3 (.t 1),co 4 (.mv (.c (I 0)))]) (.seq (.dops [2,3,5,6] [la 7 3 2,ca 8 F.r02_Sign [.t 7],la 9 3 3,ca 10 F.r02_Sign [.t 9],cm 5 8,cm 6 10] [(1,2)]) (.seq (.seq (.ops [2,3,5,6,13] [cm 11 5,cm 12 6,b2 13 .neq 11 12]) (.cond (.t 13) (.seq (.seq (.ops [16] [cm 14 5,cm 15 6,b2 16 .lss 14 15]) (.cond (.t 16) (.seq (.ops [4] [co 4 (.mv (.c (I (-1))))]) (.ret)) (.skip))) (.seq (.ops [4] [co 4 (.mv (.c (I 1)))]) (.ret))) (.skip))) (.seq (.seq (.ops [2,3,5,18] [cm 17 5,co 18 (.bin .eql (.t 17) (.c (I 0)))]) (.cond (.t 18) (.seq (.ops [4] [co 4 (.mv (.c (I 0)))]) (.ret)) (.skip))) (.seq (.seq (.dops [2,3,5,23] [la 19 3 2,ca 20 F.r02_Top [.t 19],la 21 3 3,ca 22 F.r02_Top [.t 21],b2 23 .neq 20 22] [(1,2)]) (.cond (.t 23) (.seq (.seq (.dops [31] [la 24 3 2,ca 25 F.r02_Top [.t 24],la 26 3 3,ca 27 F.r02_Top [.t 26],b2 28 .lss 25 27,cm 29 5,co 30 (.bin .gtr (.t 29) (.c (I 0))),co 31 (.eqc false 0 (.t 28) (.t 30))] [(1,2)]) (.cond (.t 31) (.seq (.ops [4] [co 4 (.mv (.c (I (-1))))]) (.ret)) (.skip))) (.seq (.ops [4] [co 4 (.mv (.c (I 1)))]) (.ret))) (.skip))) (.seq (.dops [4] [la 32 3 2,la 33 3 3,ca 34 F.r02_Neg [.t 33],ca 35 F.r02_Sum [.t 32,.t 34],ca 36 F.r02_Sign [.t 35],cm 4 36] [(0,2)]) (.ret))))))
def aio:FD:=⟨2,[[]],[.t 4],ai2⟩
def aj3:Cmd:=.seq (.ops [2,3,4] [bx 2 3 (.t 0),bx 3 3 (.t 1),al 4 [B false,.emp,I 0]]) (.seq (.seq (.ops [2,3,4,11] [fa 8 1 2,ld 9 1 8,co 10 (.len false (.t 9)),co 11 (.bin .eql (.t 10) (.c (I 0)))]) (.cond (.t 11) (.seq (.ops [4] [la 12 3 3,sr 3 (.t 4) (.t 12)]) (.ret)) (.skip))) (.seq (.seq (.ops [2,3,4,16] [fa 13 1 3,ld 14 1 13,co 15 (.len false (.t 14)),co 16 (.bin .eql (.t 15) (.c (I 0)))]) (.cond (.t 16) (.seq (.ops [4] [la 17 3 2,sr 3 (.t 4) (.t 17)]) (.ret)) (.skip))) (.seq (.ops [2,3,4,5] [fa 18 2 2,ld 19 1 18,fa 20 2 3,ld 21 1 20,co 22 (.mnx true (.t 19) [.t 21]),cm 5 22]) (.seq (.dops [2,3,4,5,6,7] [fa 23 1 2,ld 24 1 23,fa 25 2 2,ld 26 1 25,cm 27 5,b2 28 .sub 26 27,ca 29 F.r02_left [.t 24,.t 28],fa 30 1 3,ld 31 1 30,fa 32 2 3,ld 33 1 32,cm 34 5,b2 35 .sub 33 34,ca 36 F.r02_left [.t 31,.t 35],cm 6 29,cm 7 36] [(6,8),(6,10)]) (.seq (.seq (.ops [2,3,4,5,6,7,41] [fa 37 0 2,ld 38 1 37,fa 39 0 3,ld 40 1 39,co 41 (.eqc false 0 (.t 38) (.t 40))]) (.cond (.t 41) (.seq (.dops [4] [fa 42 0 2,ld 43 1 42,cm 44 6,cm 45 7,ca 46 F.r02_plus [.t 44,.t 45],cm 47 5,ca 48 F.r02_Of [.t 43,.t 46,.t 47],sr 3 (.t 4) (.t 48)] [(1,4)]) (.ret)) (.skip))) (.seq (.seq (.ops [2,3,4,5,6,7,52] [cm 49 6,cm 50 7,ca 51 F.r02_compare [.t 49,.t 50],co 52 (.bin .geq (.t 51) (.c (I 0)))]) (.cond (.t 52) (.seq (.dops [4] [fa 53 0 2,ld 54 1 53,cm 55 6,cm 56 7,ca 57 F.r02_minus [.t 55,.t 56],cm 58 5,ca 59 F.r02_Of [.t 54,.t 57,.t 58],sr 3 (.t 4) (.t 59)] [(1,4)]) (.ret)) (.skip))) (.seq (.dops [4] [fa 60 0 3,ld 61 1 60,cm 62 7,cm 63 6,ca 64 F.r02_minus [.t 62,.t 63],cm 65 5,ca 66 F.r02_Of [.t 61,.t 64,.t 65],sr 3 (.t 4) (.t 66)] [(1,4)]) (.ret))))))))
def ai3:FD:=⟨2,[[.o 0 [],.o 2 [],.o 0 []]],[.cell 4 3 true],aj3⟩
def aky:Cmd:=.seq (.ops [1,2] [bx 1 3 (.t 0),al 2 [B false,.emp,I 0],co 3 (.mv (.c (I 0)))]) (.seq (.seq (.ops [1,2,6] [la 4 3 1,ca 5 F.r02_Valid [.t 4],co 6 (.un .not (.t 5))]) (.cond (.t 6) (.seq (.ops [2,3] [co 7 (.build [B false,.emp,I 0] []),sr 3 (.t 2) (.t 7),co 3 (.mv (.c (I 9)))]) (.ret)) (.skip))) (.seq (.ops [2,3] [la 8 3 1,sr 3 (.t 2) (.t 8),co 3 (.mv (.c (I 0)))]) (.ret)))
def ai7:FD:=⟨1,[[.o 0 [],.o 2 [],.o 0 []],[]],[.cell 2 3 true,.t 3],aky⟩
def ajV:Cmd:=.seq (.seq (.ops [3,4,19] [cm 18 4,co 19 (.bin .gtr (.t 18) (.c (U 0)))]) (.cond (.t 19) (.skip) (.exit 0))) (.seq (.block 1 [3,4] (.ops [3,4] [cm 22 3,co 23 (.bin .add (.t 22) (.c (I 1))),cm 3 23])) (.ops [3,4] [cm 20 4,co 21 (.bin .shr (.t 20) (.c (W 1))),cm 4 21]))
def ak9:Cmd:=.seq (.ops [0] [co 2 (.mv (.c (I 0)))]) (.seq (.seq (.ops [0,7] [cm 5 0,co 6 (.len false (.t 5)),co 7 (.bin .eql (.t 6) (.c (I 0)))]) (.cond (.t 7) (.seq (.ops [2] [co 2 (.mv (.c (I 0)))]) (.ret)) (.skip))) (.seq (.ops [0,3] [cm 8 0,co 9 (.len false (.t 8)),co 10 (.bin .sub (.t 9) (.c (I 1))),co 11 (.bin .mul (.c (I 32)) (.t 10)),cm 3 11]) (.seq (.seq (.ops [3,4] [cm 12 0,cm 13 0,co 14 (.len false (.t 13)),co 15 (.bin .sub (.t 14) (.c (I 1))),co 16 (.iadrS 1 (.t 12) (.t 15)),ld 17 1 16,cm 4 17]) (.block 0 [3] (.loop [3,4] [] ajV))) (.seq (.ops [2] [cm 24 3,cm 2 24]) (.ret)))))
def ajQ:FD:=⟨1,[[]],[.t 2],ak9⟩
def akS:Cmd:=.seq (.ops [2,3,4] [bx 2 3 (.t 0),bx 3 3 (.t 1),al 4 [B false,.emp,I 0],co 5 (.mv (.c (I 0)))]) (.seq (.seq (.ops [2,3,4,13] [la 6 3 2,ca 7 F.r02_Valid [.t 6],co 8 (.un .not (.t 7)),cm 9 8,⟨(some 10),(some (9,false)),.load 3 true (.t 3)⟩,⟨(some 11),(some (9,false)),.call (.c (.fn F.r02_Valid [] [])) [.t 10]⟩,cg 12 9 false (.un .not (.t 11)),co 13 (.pick (.t 9) (.c (B true)) (.t 12))]) (.cond (.t 13) (.seq (.ops [4,5] [co 14 (.build [B false,.emp,I 0] []),sr 3 (.t 4) (.t 14),co 5 (.mv (.c (I 1)))]) (.ret)) (.skip))) (.seq (.ops [4,5] [la 15 3 2,la 16 3 3,ca 17 F.r02_Product [.t 15,.t 16],ca 18 F.r02_Checked [.t 17],co 19 (.ext 0 (.t 18)),co 20 (.ext 1 (.t 18)),sr 3 (.t 4) (.t 19),cm 5 20]) (.ret)))
def ajI:FD:=⟨2,[[.o 0 [],.o 2 [],.o 0 []],[]],[.cell 4 3 true,.t 5],akS⟩
def oH:Cmd:=.seq (.ops [0,1,7,8,9] [b2 9 .lss 8 7]) (.seq (.cond (.t 9) (.skip) (.exit 0)) (.seq (.block 1 [0,1,7,8] (.seq (.ops [0,1,5,7,8] [cm 10 8,cm 5 10]) (.seq (.ops [0,1,5,7,8,16] [cm 11 1,cm 12 0,cm 13 5,co 14 (.iadrS 1 (.t 12) (.t 13)),ld 15 1 14,⟨(some 16),none,.call (.t 11) [.t 15]⟩]) (.cond (.t 16) (.seq (.ops [4] [cm 17 5,cm 4 17]) (.ret)) (.skip))))) (.ops [0,1,7,8] [co 18 (.bin .add (.t 8) (.c (I 1))),cm 8 18])))
def qi:Cmd:=.seq (.ops [0,1] [co 4 (.mv (.c (I 0)))]) (.seq (.seq (.ops [0,1,7,8] [cm 6 0,co 7 (.len false (.t 6)),co 8 (.mv (.c (I 0)))]) (.block 0 [] (.loop [0,1,7,8] [] oH))) (.seq (.ops [4] [co 4 (.mv (.c (I (-1))))]) (.ret)))
def eS:FD:=⟨2,[[]],[.t 4],qi⟩
def iE:Cmd:=.seq (.ops [0,1] [co 4 (.mv (.c (I 0)))]) (.seq (.ops [0,1,5] [cm 7 0,ca 8 F.cmp_isNaN_int_ [.t 7],cm 5 8]) (.seq (.ops [0,1,5,6] [cm 9 1,ca 10 F.cmp_isNaN_int_ [.t 9],cm 6 10]) (.seq (.seq (.ops [0,1,6,11] [cm 11 5]) (.cond (.t 11) (.seq (.seq (.ops [12] [cm 12 6]) (.cond (.t 12) (.seq (.ops [4] [co 4 (.mv (.c (I 0)))]) (.ret)) (.skip))) (.seq (.ops [4] [co 4 (.mv (.c (I (-1))))]) (.ret))) (.skip))) (.seq (.seq (.ops [0,1,13] [cm 13 6]) (.cond (.t 13) (.seq (.ops [4] [co 4 (.mv (.c (I 1)))]) (.ret)) (.skip))) (.seq (.seq (.ops [0,1,16] [cm 14 0,cm 15 1,b2 16 .lss 14 15]) (.cond (.t 16) (.seq (.ops [4] [co 4 (.mv (.c (I (-1))))]) (.ret)) (.skip))) (.seq (.seq (.ops [19] [cm 17 0,cm 18 1,b2 19 .gtr 17 18]) (.cond (.t 19) (.seq (.ops [4] [co 4 (.mv (.c (I 1)))]) (.ret)) (.skip))) (.seq (.ops [4] [co 4 (.mv (.c (I 0)))]) (.ret))))))))
def dz:FD:=⟨2,[[]],[.t 4],iE⟩
def cp:Cmd:=.seq (.ops [0,1,9,10,11,12] [b2 12 .lss 11 10]) (.seq (.cond (.t 12) (.skip) (.exit 0)) (.seq (.block 1 [0,1,9,10,11] (.seq (.ops [0,1,5,6,9,10,11] [cm 13 11,co 14 (.iadrS 1 (.t 9) (.t 11)),ld 15 1 14,cm 5 13,cm 6 15]) (.seq (.seq (.ops [0,1,5,6,9,10,11,19] [cm 16 5,cm 17 1,co 18 (.len false (.t 17)),b2 19 .geq 16 18]) (.cond (.t 19) (.seq (.ops [4] [co 4 (.mv (.c (I 1)))]) (.ret)) (.skip))) (.seq (.ops [0,1,6,7,9,10,11] [cm 20 1,cm 21 5,co 22 (.iadrS 1 (.t 20) (.t 21)),ld 23 1 22,cm 7 23]) (.seq (.ops [0,1,8,9,10,11] [cm 24 6,cm 25 7,ca 26 F.cmp_Compare_int_ [.t 24,.t 25],cm 8 26]) (.seq (.ops [0,1,8,9,10,11,28] [cm 27 8,co 28 (.bin .neq (.t 27) (.c (I 0)))]) (.cond (.t 28) (.seq (.ops [4] [cm 29 8,cm 4 29]) (.ret)) (.skip)))))))) (.ops [0,1,9,10,11] [co 30 (.bin .add (.t 11) (.c (I 1))),cm 11 30])))
def gk:Cmd:=.seq (.ops [0,1] [co 4 (.mv (.c (I 0)))]) (.seq (.seq (.ops [0,1,9,10,11] [cm 9 0,co 10 (.len false (.t 9)),co 11 (.mv (.c (I 0)))]) (.block 0 [0,1] (.loop [0,1,9,10,11] [] cp))) (.seq (.seq (.ops [35] [cm 31 0,co 32 (.len false (.t 31)),cm 33 1,co 34 (.len false (.t 33)),b2 35 .lss 32 34]) (.cond (.t 35) (.seq (.ops [4] [co 4 (.mv (.c (I (-1))))]) (.ret)) (.skip))) (.seq (.ops [4] [co 4 (.mv (.c (I 0)))]) (.ret))))
def cE:FD:=⟨2,[[]],[.t 4],gk⟩
def Ig:Cmd:=.seq (.ops [0] [co 2 (.mv (.c (I 0)))]) (.seq (.block 0 [] (.seq (.ops [0,3] [cm 4 0,co 5 (.bin .eql (.t 4) (.c (.v (.int .u8 32)))),cm 6 5,cg 7 6 false (.mv (.t 0)),cg 8 6 false (.bin .eql (.t 7) (.c (.v (.int .u8 9)))),co 9 (.pick (.t 6) (.c (B true)) (.t 8)),cm 10 9,cg 11 10 false (.mv (.t 0)),cg 12 10 false (.bin .eql (.t 11) (.c (.v (.int .u8 13)))),co 13 (.pick (.t 10) (.c (B true)) (.t 12)),cm 14 13,cg 15 14 false (.mv (.t 0)),cg 16 14 false (.bin .eql (.t 15) (.c (.v (.int .u8 10)))),co 17 (.pick (.t 14) (.c (B true)) (.t 16)),cm 3 17]) (.cond (.t 3) (.seq (.ops [2] [co 2 (.mv (.c (I 1)))]) (.ret)) (.seq (.ops [0,18] [cm 19 0,co 20 (.bin .geq (.t 19) (.c (.v (.int .u8 97)))),cm 21 20,cg 22 21 true (.mv (.t 0)),cg 23 21 true (.bin .leq (.t 22) (.c (.v (.int .u8 122)))),co 24 (.pick (.t 21) (.t 23) (.c (B false))),cm 25 24,cg 26 25 false (.mv (.t 0)),cg 27 25 false (.bin .geq (.t 26) (.c (.v (.int .u8 65)))),cg 28 25 false (.mv (.t 27)),cg 29 28 true (.mv (.t 0)),cg 30 28 true (.bin .leq (.t 29) (.c (.v (.int .u8 90)))),cg 31 25 false (.pick (.t 28) (.t 30) (.c (B false))),co 32 (.pick (.t 25) (.c (B true)) (.t 31)),cm 18 32]) (.cond (.t 18) (.seq (.ops [2] [co 2 (.mv (.c (I 2)))]) (.ret)) (.seq (.ops [0,33] [cm 34 0,co 35 (.bin .geq (.t 34) (.c (.v (.int .u8 48)))),cm 36 35,cg 37 36 true (.mv (.t 0)),cg 38 36 true (.bin .leq (.t 37) (.c (.v (.int .u8 57)))),co 39 (.pick (.t 36) (.t 38) (.c (B false))),cm 33 39]) (.cond (.t 33) (.seq (.ops [2] [co 2 (.mv (.c (I 3)))]) (.ret)) (.seq (.ops [0,40] [cm 41 0,co 42 (.bin .eql (.t 41) (.c (.v (.int .u8 95)))),cm 40 42]) (.cond (.t 40) (.seq (.ops [2] [co 2 (.mv (.c (I 4)))]) (.ret)) (.seq (.ops [0,43] [cm 44 0,co 45 (.bin .eql (.t 44) (.c (.v (.int .u8 46)))),cm 43 45]) (.cond (.t 43) (.seq (.ops [2] [co 2 (.mv (.c (I 5)))]) (.ret)) (.seq (.ops [46] [cm 47 0,ca 48 F.strings_IndexByte [.c (.v (.string ⟨#[40,41,91,93,123,125,44,59,58,39,61,43,45,42,47,94]⟩)),.t 47],co 49 (.bin .geq (.t 48) (.c (I 0))),cm 46 49]) (.cond (.t 46) (.seq (.ops [2] [co 2 (.mv (.c (I 6)))]) (.ret)) (.skip)))))))))))))) (.seq (.ops [2] [co 2 (.mv (.c (I 0)))]) (.ret)))
def wQ:FD:=⟨1,[[]],[.t 2],Ig⟩
def wR:Cmd:=.seq (.seq (.ops [0,1,6,7,8,16] [cm 15 8,co 16 (.bin .geq (.t 15) (.c (I 0)))]) (.cond (.t 16) (.skip) (.exit 0))) (.seq (.block 1 [0,1,6,7,8] (.ops [0,1,6,7,8] [cm 20 6,cm 21 8,cm 22 7,cm 23 0,cm 24 8,co 25 (.iadrS 1 (.t 23) (.t 24)),ld 26 1 25,cm 27 1,ca 28 F.bits_Div32 [.t 22,.t 26,.t 27],cm 19 28,co 29 (.ext 0 (.t 19)),co 30 (.ext 1 (.t 19)),co 31 (.iadrS 1 (.t 20) (.t 21)),sr 1 (.t 31) (.t 29),cm 7 30])) (.ops [0,1,6,7,8] [cm 17 8,co 18 (.bin .sub (.t 17) (.c (I 1))),cm 8 18]))
def AX:Cmd:=.seq (.ops [0,1] [co 4 (.mv (.c .emp)),co 5 (.mv (.c (U 0)))]) (.seq (.ops [0,1,6] [cm 9 0,co 10 (.len false (.t 9)),⟨(some 11),none,.mkSl 1 [U 0] 4 (.t 10) (.t 10)⟩,cm 6 11]) (.seq (.ops [0,1,6,7] [co 7 (.mv (.c (U 0)))]) (.seq (.seq (.ops [0,1,6,7,8] [cm 12 0,co 13 (.len false (.t 12)),co 14 (.bin .sub (.t 13) (.c (I 1))),cm 8 14]) (.block 0 [6,7] (.loop [0,1,6,7,8] [11] wR))) (.seq (.ops [4,5] [cm 32 6,cm 33 7,cm 4 32,cm 5 33]) (.ret)))))
def rH:FD:=⟨2,[[.o 2 []],[]],[.t 4,.t 5],AX⟩
def uJ:Cmd:=.seq (.ops [0,1] [co 4 (.mv (.c (.v (.string ⟨#[]⟩))))]) (.seq (.ops [4] [cm 5 0,cm 6 1,ca 7 F.internal_strconv_FormatUint [.t 5,.t 6],cm 4 7]) (.ret))
def nL:FD:=⟨2,[[]],[.t 4],uJ⟩
def mB:Cmd:=.seq (.seq (.ops [0,2,3,9] [cm 7 2,cm 8 3,b2 9 .lss 7 8]) (.cond (.t 9) (.skip) (.exit 0))) (.seq (.block 1 [0,2,3] (.dops [0,2,3] [cm 14 0,cm 15 2,cm 16 0,cm 17 3,cm 18 0,cm 19 3,co 20 (.iadrS 1 (.t 18) (.t 19)),ld 21 1 20,cm 22 0,cm 23 2,co 24 (.iadrS 1 (.t 22) (.t 23)),ld 25 1 24,co 26 (.iadrS 1 (.t 14) (.t 15)),sr 1 (.t 26) (.t 21),co 27 (.iadrS 1 (.t 16) (.t 17)),sr 1 (.t 27) (.t 25)] [])) (.ops [0,2,3] [cm 10 2,co 11 (.bin .add (.t 10) (.c (I 1))),cm 12 3,co 13 (.bin .sub (.t 12) (.c (I 1))),cm 2 11,cm 3 13]))
def nV:Cmd:=.seq (.ops [0,2,3] [cm 4 0,co 5 (.len false (.t 4)),co 6 (.bin .sub (.t 5) (.c (I 1))),co 2 (.mv (.c (I 0))),cm 3 6]) (.block 0 [] (.loop [0,2,3] [] mB))
def gR:FD:=⟨1,[],[],nV⟩
def alF:Cmd:=.seq (.ops [1,8,63,64,65,66] [b2 66 .lss 65 64]) (.seq (.cond (.t 66) (.skip) (.exit 3)) (.seq (.block 4 [1,8,63,64,65] (.seq (.ops [1,8,10,63,64,65] [co 67 (.iadrS 1 (.t 63) (.t 65)),ld 68 1 67,cm 10 68]) (.seq (.ops [1,8,10,63,64,65] [cm 69 1,ca 70 F.strings_Builder_WriteString [.t 8,.t 69]]) (.ops [1,8,63,64,65] [cm 71 10,ca 72 F.strings_Builder_WriteString [.t 8,.t 71]])))) (.ops [1,8,63,64,65] [co 73 (.bin .add (.t 65) (.c (I 1))),cm 65 73])))
def x9:Cmd:=.seq (.ops [0,1,5,39,40,41,42] [b2 42 .lss 41 40]) (.seq (.cond (.t 42) (.skip) (.exit 1)) (.seq (.block 2 [0,1,5,39,40,41] (.seq (.ops [0,1,5,7,39,40,41] [co 43 (.iadrS 1 (.t 39) (.t 41)),ld 44 1 43,cm 7 44]) (.seq (.seq (.ops [0,1,5,7,39,40,41,49] [cm 45 7,co 46 (.len true (.t 45)),cm 47 5,co 48 (.bin .sub (.c (I 9223372036854775807)) (.t 47)),b2 49 .gtr 46 48]) (.cond (.t 49) (.ops [0,1,5,7,39,40,41] [⟨(some 50),none,.bad⟩,⟨none,none,.bad⟩]) (.skip))) (.ops [0,1,5,39,40,41] [cm 51 5,cm 52 7,co 53 (.len true (.t 52)),b2 54 .add 51 53,cm 5 54])))) (.ops [0,1,5,39,40,41] [co 55 (.bin .add (.t 41) (.c (I 1))),cm 41 55])))
def B2:Cmd:=.seq (.ops [0,1] [co 4 (.mv (.c (.v (.string ⟨#[]⟩))))]) (.seq (.seq (.ops [0,1,12] [cm 11 0,co 12 (.len false (.t 11))]) (.block 0 [0,1] (.seq (.ops [0,1,12,13] [co 14 (.bin .eql (.t 12) (.c (I 0))),cm 13 14]) (.cond (.t 13) (.seq (.ops [4] [co 4 (.mv (.c (.v (.string ⟨#[]⟩))))]) (.ret)) (.seq (.ops [0,1,15] [co 16 (.bin .eql (.t 12) (.c (I 1))),cm 15 16]) (.cond (.t 15) (.seq (.ops [4] [cm 17 0,co 18 (.iadrS 1 (.t 17) (.c (I 0))),ld 19 1 18,cm 4 19]) (.ret)) (.skip))))))) (.seq (.ops [0,1,5] [co 5 (.mv (.c (I 0)))]) (.seq (.seq (.ops [0,1,5,22] [cm 20 1,co 21 (.len true (.t 20)),co 22 (.bin .gtr (.t 21) (.c (I 0)))]) (.cond (.t 22) (.seq (.seq (.ops [0,1,5,29] [cm 23 1,co 24 (.len true (.t 23)),cm 25 0,co 26 (.len false (.t 25)),co 27 (.bin .sub (.t 26) (.c (I 1))),co 28 (.bin .quo (.c (I 9223372036854775807)) (.t 27)),b2 29 .geq 24 28]) (.cond (.t 29) (.ops [0,1,5] [⟨(some 30),none,.bad⟩,⟨none,none,.bad⟩]) (.skip))) (.ops [0,1,5] [cm 31 5,cm 32 1,co 33 (.len true (.t 32)),cm 34 0,co 35 (.len false (.t 34)),co 36 (.bin .sub (.t 35) (.c (I 1))),b2 37 .mul 33 36,b2 38 .add 31 37,cm 5 38])) (.skip))) (.seq (.seq (.ops [0,1,5,39,40,41] [cm 39 0,co 40 (.len false (.t 39)),co 41 (.mv (.c (I 0)))]) (.block 1 [0,1,5] (.loop [0,1,5,39,40,41] [] x9))) (.seq (.ops [0,1,5,8] [al 8 [.v (.pointer none),.emp]]) (.seq (.ops [0,1,8] [cm 56 5,ca 57 F.strings_Builder_Grow [.t 8,.t 56]]) (.seq (.ops [0,1,8] [cm 58 0,co 59 (.iadrS 1 (.t 58) (.c (I 0))),ld 60 1 59,ca 61 F.strings_Builder_WriteString [.t 8,.t 60]]) (.seq (.seq (.ops [1,8,63,64,65] [cm 62 0,co 63 (.slc 1 (.t 62) (some (.c (I 1))) none none),co 64 (.len false (.t 63)),co 65 (.mv (.c (I 0)))]) (.block 3 [8] (.loop [1,8,63,64,65] [8] alF))) (.seq (.ops [4] [ca 74 F.strings_Builder_String [.t 8],cm 4 74]) (.ret))))))))))
def su:FD:=⟨2,[[]],[.t 4],B2⟩
def qj:Cmd:=.seq (.ops [0,6] [cm 2 0,nk 3 2,fa 4 0 3,ld 5 1 4,co 6 (.eqc false 1 (.t 5) (.c (.v (.pointer none))))]) (.cond (.t 6) (.ops [] [cm 7 0,cm 8 0,⟨(some 9),none,.bad⟩,ca 10 F.internal_abi_NoEscape [.t 9],⟨(some 11),none,.bad⟩,nk 12 7,fa 13 0 12,sr 1 (.t 13) (.t 11)]) (.seq (.ops [19] [cm 14 0,nk 15 14,fa 16 0 15,ld 17 1 16,cm 18 0,co 19 (.eqc true 1 (.t 17) (.t 18))]) (.cond (.t 19) (.ops [] [⟨none,none,.bad⟩]) (.skip))))
def jr:FD:=⟨1,[],[],qj⟩
def pu:Cmd:=.seq (.ops [0,1] [co 4 (.mv (.c (.v (.string ⟨#[]⟩))))]) (.seq (.seq (.ops [0,1,11] [cm 10 1,co 11 (.bin .eql (.t 10) (.c (I 10)))]) (.cond (.t 11) (.seq (.seq (.ops [0,17] [cm 12 0,co 13 (.bin .leq (.c (I 0)) (.t 12)),cm 14 13,cg 15 14 true (.mv (.t 0)),cg 16 14 true (.bin .lss (.t 15) (.c (I 100))),co 17 (.pick (.t 14) (.t 16) (.c (B false)))]) (.cond (.t 17) (.seq (.ops [4] [cm 18 0,ca 19 F.internal_strconv_small [.t 18],cm 4 19]) (.ret)) (.skip))) (.seq (.ops [0,5] [al 5 [.v (.int .u8 0),.v (.int .u8 0),.v (.int .u8 0),.v (.int .u8 0),.v (.int .u8 0),.v (.int .u8 0),.v (.int .u8 0),.v (.int .u8 0),.v (.int .u8 0),.v (.int .u8 0),.v (.int .u8 0),.v (.int .u8 0),.v (.int .u8 0),.v (.int .u8 0),.v (.int .u8 0),.v (.int .u8 0),.v (.int .u8 0),.v (.int .u8 0),.v (.int .u8 0),.v (.int .u8 0),.v (.int .u8 0),.v (.int .u8 0),.v (.int .u8 0),.v (.int .u8 0)]]) (.seq (.ops [0,5,6] [cm 20 0,co 21 (.cv .u64 (.t 20)),cm 6 21]) (.seq (.seq (.ops [0,5,6,23] [cm 22 0,co 23 (.bin .lss (.t 22) (.c (I 0)))]) (.cond (.t 23) (.ops [0,5,6] [cm 24 6,co 25 (.un .neg (.t 24)),cm 6 25]) (.skip))) (.seq (.ops [0,5,6,7] [cm 26 6,ca 27 F.internal_strconv_numDigits [.t 26],cm 7 27]) (.seq (.ops [0,5,7] [cm 28 7,co 29 (.bin .add (.c (I 1)) (.t 28)),⟨(some 30),none,.bad⟩,cm 31 6,ca 32 F.internal_strconv_formatBase10 [.t 30,.t 31]]) (.seq (.seq (.ops [5,7,34] [cm 33 0,co 34 (.bin .lss (.t 33) (.c (I 0)))]) (.cond (.t 34) (.seq (.ops [7] [co 35 (.iadrA 24 1 (.t 5) (.c (I 0))),sr 1 (.t 35) (.c (.v (.int .u8 45)))]) (.seq (.ops [4] [cm 36 7,co 37 (.bin .add (.c (I 1)) (.t 36)),⟨(some 38),none,.bad⟩,⟨(some 39),none,.bad⟩,cm 4 39]) (.ret))) (.skip))) (.seq (.ops [4] [cm 40 7,co 41 (.bin .add (.c (I 1)) (.t 40)),⟨(some 42),none,.bad⟩,⟨(some 43),none,.bad⟩,cm 4 43]) (.ret))))))))) (.skip))) (.seq (.ops [9] [cm 45 0,co 46 (.cv .u64 (.t 45)),cm 47 1,cm 48 0,co 49 (.bin .lss (.t 48) (.c (I 0))),ca 50 F.internal_strconv_formatBits [.c .emp,.t 46,.t 47,.t 49,.c (B false)],cm 44 50,co 51 (.ext 0 (.t 44)),co 52 (.ext 1 (.t 44)),cm 8 51,cm 9 52]) (.seq (.ops [4] [cm 53 9,cm 4 53]) (.ret))))
def iV:FD:=⟨2,[[]],[.t 4],pu⟩
def aln:Cmd:=.seq (.seq (.ops [0,3,15] [cm 6 3,co 7 (.bin .gtr (.t 6) (.c (I 0))),cm 8 7,cg 9 8 true (.mv (.t 0)),cg 10 8 true (.mv (.t 3)),cg 11 8 true (.bin .sub (.t 10) (.c (I 1))),cg 12 8 true (.iadrS 1 (.t 9) (.t 11)),⟨(some 13),(some (8,true)),.load 1 false (.t 12)⟩,cg 14 8 true (.bin .eql (.t 13) (.c (U 0))),co 15 (.pick (.t 8) (.t 14) (.c (B false)))]) (.cond (.t 15) (.skip) (.exit 0))) (.block 1 [0,3] (.ops [0,3] [cm 16 3,co 17 (.bin .sub (.t 16) (.c (I 1))),cm 3 17]))
def amd:Cmd:=.seq (.ops [0] [co 2 (.mv (.c .emp))]) (.seq (.ops [0,3] [cm 4 0,co 5 (.len false (.t 4)),cm 3 5]) (.seq (.block 0 [0,3] (.loop [0,3] [] aln)) (.seq (.ops [2] [⟨(some 18),none,.buildSl 1 [U 0] 0 []⟩,cm 19 0,cm 20 3,co 21 (.slc 1 (.t 19) none (some (.t 20)) none),⟨(some 22),none,.app 1 4 (.t 18) (.t 21)⟩,cm 2 22]) (.ret))))
def ako:FD:=⟨1,[[.o 2 []]],[.t 2],amd⟩
def kE:Cmd:=.seq (.ops [0,1] [co 4 (.mv (.c .emp)),co 5 (.mv (.c (I 0)))]) (.seq (.block 0 [0,1] (.seq (.ops [0,1,6] [cm 7 0,⟨(some 8),none,.buildSl 1 [.emp] 1 [(0,.t 7)]⟩,ca 9 F.natural_long [.t 8],cm 6 9]) (.cond (.t 6) (.seq (.ops [4,5] [co 4 (.mv (.c .emp)),co 5 (.mv (.c (I 9)))]) (.ret)) (.seq (.ops [0,1,10] [cm 11 1,co 12 (.bin .lss (.t 11) (.c (I 0))),cm 13 12,cg 14 13 false (.mv (.t 1)),cg 15 13 false (.bin .gtr (.t 14) (.c (I 65536))),co 16 (.pick (.t 13) (.c (B true)) (.t 15)),cm 10 16]) (.cond (.t 10) (.seq (.ops [4,5] [co 4 (.mv (.c .emp)),co 5 (.mv (.c (I 2)))]) (.ret)) (.skip)))))) (.seq (.ops [4,5] [cm 17 0,cm 18 1,ca 19 F.natural_shl [.t 17,.t 18],ca 20 F.natural_done [.t 19],co 21 (.ext 0 (.t 20)),co 22 (.ext 1 (.t 20)),cm 4 21,cm 5 22]) (.ret)))
def eU:FD:=⟨2,[[.o 2 []],[]],[.t 4,.t 5],kE⟩
def eW:Cmd:=.seq (.ops [0,1,5,6,21,22,23,24] [b2 24 .lss 23 22]) (.seq (.cond (.t 24) (.skip) (.exit 0)) (.seq (.block 1 [0,1,5,6,21,22,23] (.seq (.ops [0,1,5,6,7,8,21,22,23] [cm 25 23,co 26 (.iadrS 1 (.t 21) (.t 23)),ld 27 1 26,cm 7 25,cm 8 27]) (.seq (.ops [0,1,5,6,7,8,9,21,22,23] [co 9 (.mv (.c (U 0)))]) (.seq (.seq (.ops [0,1,5,6,7,8,9,21,22,23,31] [cm 28 7,cm 29 1,co 30 (.len false (.t 29)),b2 31 .lss 28 30]) (.cond (.t 31) (.ops [0,1,5,6,7,8,9,21,22,23] [cm 32 1,cm 33 7,co 34 (.iadrS 1 (.t 32) (.t 33)),ld 35 1 34,cm 9 35]) (.skip))) (.ops [0,1,5,6,21,22,23] [cm 37 5,cm 38 7,cm 39 8,cm 40 9,cm 41 6,ca 42 F.bits_Add32 [.t 39,.t 40,.t 41],cm 36 42,co 43 (.ext 0 (.t 36)),co 44 (.ext 1 (.t 36)),co 45 (.iadrS 1 (.t 37) (.t 38)),sr 1 (.t 45) (.t 43),cm 6 44]))))) (.ops [0,1,5,6,21,22,23] [co 46 (.bin .add (.t 23) (.c (I 1))),cm 23 46])))
def vB:Cmd:=.seq (.ops [0,1] [co 4 (.mv (.c .emp))]) (.seq (.seq (.ops [0,1,14] [cm 10 0,co 11 (.len false (.t 10)),cm 12 1,co 13 (.len false (.t 12)),b2 14 .lss 11 13]) (.cond (.t 14) (.ops [0,1] [cm 15 1,cm 16 0,cm 0 15,cm 1 16]) (.skip))) (.seq (.ops [0,1,5] [cm 17 0,co 18 (.len false (.t 17)),co 19 (.bin .add (.t 18) (.c (I 1))),⟨(some 20),none,.mkSl 1 [U 0] 4 (.t 19) (.t 19)⟩,cm 5 20]) (.seq (.ops [0,1,5,6] [co 6 (.mv (.c (U 0)))]) (.seq (.seq (.ops [0,1,5,6,21,22,23] [cm 21 0,co 22 (.len false (.t 21)),co 23 (.mv (.c (I 0)))]) (.block 0 [0,5,6] (.loop [0,1,5,6,21,22,23] [20] eW))) (.seq (.ops [5] [cm 47 5,cm 48 0,co 49 (.len false (.t 48)),cm 50 6,co 51 (.iadrS 1 (.t 47) (.t 49)),sr 1 (.t 51) (.t 50)]) (.seq (.ops [4] [cm 52 5,cm 4 52]) (.ret)))))))
def js:FD:=⟨2,[[.o 2 []]],[.t 4],vB⟩
def gS:Cmd:=.seq (.ops [1,5,6,17,18,19,20] [b2 20 .lss 19 18]) (.seq (.cond (.t 20) (.skip) (.exit 0)) (.seq (.block 1 [1,5,6,17,18,19] (.seq (.ops [1,5,6,7,8,17,18,19] [cm 21 19,co 22 (.iadrS 1 (.t 17) (.t 19)),ld 23 1 22,cm 7 21,cm 8 23]) (.seq (.ops [1,5,6,7,8,9,17,18,19] [co 9 (.mv (.c (U 0)))]) (.seq (.seq (.ops [1,5,6,7,8,9,17,18,19,27] [cm 24 7,cm 25 1,co 26 (.len false (.t 25)),b2 27 .lss 24 26]) (.cond (.t 27) (.ops [1,5,6,7,8,9,17,18,19] [cm 28 1,cm 29 7,co 30 (.iadrS 1 (.t 28) (.t 29)),ld 31 1 30,cm 9 31]) (.skip))) (.ops [1,5,6,17,18,19] [cm 33 5,cm 34 7,cm 35 8,cm 36 9,cm 37 6,ca 38 F.bits_Sub32 [.t 35,.t 36,.t 37],cm 32 38,co 39 (.ext 0 (.t 32)),co 40 (.ext 1 (.t 32)),co 41 (.iadrS 1 (.t 33) (.t 34)),sr 1 (.t 41) (.t 39),cm 6 40]))))) (.ops [1,5,6,17,18,19] [co 42 (.bin .add (.t 19) (.c (I 1))),cm 19 42])))
def vC:Cmd:=.seq (.ops [0,1] [co 4 (.mv (.c .emp))]) (.seq (.ops [0,1] [cm 10 0,ca 11 F.natural_trim [.t 10],cm 12 1,ca 13 F.natural_trim [.t 12],cm 0 11,cm 1 13]) (.seq (.ops [0,1,5] [cm 14 0,co 15 (.len false (.t 14)),⟨(some 16),none,.mkSl 1 [U 0] 4 (.t 15) (.t 15)⟩,cm 5 16]) (.seq (.ops [0,1,5,6] [co 6 (.mv (.c (U 0)))]) (.seq (.seq (.ops [1,5,6,17,18,19] [cm 17 0,co 18 (.len false (.t 17)),co 19 (.mv (.c (I 0)))]) (.block 0 [5] (.loop [1,5,6,17,18,19] [16] gS))) (.seq (.ops [4] [cm 43 5,cm 4 43]) (.ret))))))
def l9:FD:=⟨2,[[.o 2 []]],[.t 4],vC⟩
def wS:Cmd:=.seq (.ops [0,2] [co 2 (.mv (.c (I 0)))]) (.seq (.seq (.ops [0,2,4] [cm 3 0,co 4 (.bin .geq (.t 3) (.c (U 65536)))]) (.cond (.t 4) (.seq (.ops [0] [cm 5 0,co 6 (.bin .shr (.t 5) (.c (W 16))),cm 0 6]) (.ops [0,2] [co 2 (.mv (.c (I 16)))])) (.skip))) (.seq (.seq (.ops [0,2,8] [cm 7 0,co 8 (.bin .geq (.t 7) (.c (U 256)))]) (.cond (.t 8) (.seq (.ops [0,2] [cm 9 0,co 10 (.bin .shr (.t 9) (.c (W 8))),cm 0 10]) (.ops [0,2] [cm 11 2,co 12 (.bin .add (.t 11) (.c (I 8))),cm 2 12])) (.skip))) (.seq (.ops [2] [cm 13 2,cm 14 0,co 15 (.cv .u8 (.t 14)),co 16 (.idxS (.c (.v (.string ⟨#[0,1,2,2,3,3,3,3,4,4,4,4,4,4,4,4,5,5,5,5,5,5,5,5,5,5,5,5,5,5,5,5,6,6,6,6,6,6,6,6,6,6,6,6,6,6,6,6,6,6,6,6,6,6,6,6,6,6,6,6,6,6,6,6,7,7,7,7,7,7,7,7,7,7,7,7,7,7,7,7,7,7,7,7,7,7,7,7,7,7,7,7,7,7,7,7,7,7,7,7,7,7,7,7,7,7,7,7,7,7,7,7,7,7,7,7,7,7,7,7,7,7,7,7,7,7,7,7,8,8,8,8,8,8,8,8,8,8,8,8,8,8,8,8,8,8,8,8,8,8,8,8,8,8,8,8,8,8,8,8,8,8,8,8,8,8,8,8,8,8,8,8,8,8,8,8,8,8,8,8,8,8,8,8,8,8,8,8,8,8,8,8,8,8,8,8,8,8,8,8,8,8,8,8,8,8,8,8,8,8,8,8,8,8,8,8,8,8,8,8,8,8,8,8,8,8,8,8,8,8,8,8,8,8,8,8,8,8,8,8,8,8,8,8,8,8,8,8,8,8,8,8,8,8,8,8]⟩))) (.t 15)),co 17 (.cv .i64 (.t 16)),b2 18 .add 13 17,cm 2 18]) (.ret))))
def fL:FD:=⟨1,[[]],[.t 2],wS⟩
def kL:Cmd:=.seq (.ops [0,1] [co 4 (.mv (.c (B false)))]) (.seq (.ops [4] [cm 5 0,cm 6 1,ca 7 F.slices_IndexFunc_Suint32_Suint32_ [.t 5,.t 6],co 8 (.bin .geq (.t 7) (.c (I 0))),cm 4 8]) (.ret))
def cF:FD:=⟨2,[[]],[.t 4],kL⟩
def rI:Cmd:=.seq (.ops [0] [co 2 (.mv (.c (B false)))]) (.seq (.ops [2] [cm 3 0,co 4 (.len false (.t 3)),co 5 (.bin .gtr (.t 4) (.c (I 256))),cm 2 5]) (.ret))
def ja:FD:=⟨1,[[]],[.t 2],rI⟩
def gT:Cmd:=.seq (.ops [0,1,5,23,24,25,26] [b2 26 .lss 25 24]) (.seq (.cond (.t 26) (.skip) (.exit 0)) (.seq (.block 1 [0,1,5,23,24,25] (.seq (.ops [0,1,5,6,7,23,24,25] [cm 27 25,co 28 (.iadrS 1 (.t 23) (.t 25)),ld 29 1 28,cm 6 27,cm 7 29]) (.seq (.ops [0,1,5,6,8,23,24,25] [cm 30 7,co 31 (.cv .u64 (.t 30)),cm 8 31]) (.seq (.seq (.ops [0,1,5,6,8,23,24,25,36] [cm 32 6,co 33 (.bin .add (.t 32) (.c (I 1))),cm 34 0,co 35 (.len false (.t 34)),b2 36 .lss 33 35]) (.cond (.t 36) (.ops [0,1,5,6,8,23,24,25] [cm 37 8,cm 38 0,cm 39 6,co 40 (.bin .add (.t 39) (.c (I 1))),co 41 (.iadrS 1 (.t 38) (.t 40)),ld 42 1 41,co 43 (.cv .u64 (.t 42)),co 44 (.bin .shl (.t 43) (.c (W 32))),b2 45 .or 37 44,cm 8 45]) (.skip))) (.ops [0,1,5,23,24,25] [cm 46 5,cm 47 6,cm 48 8,cm 49 1,co 50 (.bin .rem (.t 49) (.c (I 32))),b2 51 .shr 48 50,co 52 (.cv .u32 (.t 51)),co 53 (.iadrS 1 (.t 46) (.t 47)),sr 1 (.t 53) (.t 52)]))))) (.ops [0,1,5,23,24,25] [co 54 (.bin .add (.t 25) (.c (I 1))),cm 25 54])))
def qz:Cmd:=.seq (.ops [0,1] [co 4 (.mv (.c .emp))]) (.seq (.ops [0,1] [cm 9 0,ca 10 F.natural_trim [.t 9],cm 0 10]) (.seq (.seq (.ops [0,1,15] [cm 11 1,co 12 (.bin .quo (.t 11) (.c (I 32))),cm 13 0,co 14 (.len false (.t 13)),b2 15 .geq 12 14]) (.cond (.t 15) (.seq (.ops [4] [co 4 (.mv (.c .emp))]) (.ret)) (.skip))) (.seq (.ops [0,1] [cm 16 0,cm 17 1,co 18 (.bin .quo (.t 17) (.c (I 32))),co 19 (.slc 1 (.t 16) (some (.t 18)) none none),cm 0 19]) (.seq (.ops [0,1,5] [cm 20 0,co 21 (.len false (.t 20)),⟨(some 22),none,.mkSl 1 [U 0] 4 (.t 21) (.t 21)⟩,cm 5 22]) (.seq (.seq (.ops [0,1,5,23,24,25] [cm 23 0,co 24 (.len false (.t 23)),co 25 (.mv (.c (I 0)))]) (.block 0 [5] (.loop [0,1,5,23,24,25] [22] gT))) (.seq (.ops [4] [cm 55 5,cm 4 55]) (.ret)))))))
def jt:FD:=⟨2,[[.o 2 []]],[.t 4],qz⟩
def akz:Cmd:=.seq (.ops [1,2,3,6] [bx 3 3 (.t 0),al 6 [B false,.emp,I 0],co 7 (.mv (.c (I 0)))]) (.seq (.seq (.ops [1,2,3,6,8] [cm 9 1,la 10 3 3,⟨(some 11),none,.buildSl 3 [B false,.emp,I 0] 1 [(0,.t 10)]⟩,ca 12 F.round_fault [.t 9,.t 11],cm 8 12]) (.seq (.ops [1,2,3,6,8,14] [cm 13 8,co 14 (.bin .neq (.t 13) (.c (I 0)))]) (.cond (.t 14) (.seq (.ops [6,7] [co 15 (.build [B false,.emp,I 0] []),cm 16 8,sr 3 (.t 6) (.t 15),cm 7 16]) (.ret)) (.skip)))) (.seq (.dops [6,7] [fa 17 0 3,ld 18 1 17,la 19 3 3,ca 20 F.round_of [.t 19],cm 21 1,cm 22 2,ca 23 F.round_signed [.t 18,.t 20,.t 21,.t 22],co 24 (.ext 0 (.t 23)),co 25 (.ext 1 (.t 23)),sr 3 (.t 6) (.t 24),cm 7 25] [(1,3)]) (.ret)))
def ai8:FD:=⟨3,[[.o 0 [],.o 2 [],.o 0 []],[]],[.cell 6 3 true,.t 7],akz⟩
def ajR:Cmd:=.seq (.ops [2,3,4] [bx 3 3 (.t 0),bx 4 3 (.t 1),co 6 (.mv (.c (I 0)))]) (.seq (.seq (.ops [2,14] [la 7 3 3,ca 8 F.r02_Valid [.t 7],co 9 (.un .not (.t 8)),cm 10 9,⟨(some 11),(some (10,false)),.load 3 true (.t 4)⟩,⟨(some 12),(some (10,false)),.call (.c (.fn F.r02_Valid [] [])) [.t 11]⟩,cg 13 10 false (.un .not (.t 12)),co 14 (.pick (.t 10) (.c (B true)) (.t 13))]) (.cond (.t 14) (.seq (.ops [6] [co 6 (.mv (.c (I 1)))]) (.ret)) (.skip))) (.seq (.seq (.ops [17] [cm 15 2,ca 16 F.r03_Prec [.t 15],co 17 (.un .not (.t 16))]) (.cond (.t 17) (.seq (.ops [6] [co 6 (.mv (.c (I 2)))]) (.ret)) (.skip))) (.seq (.ops [6] [co 6 (.mv (.c (I 0)))]) (.ret))))
def aiV:FD:=⟨3,[[]],[.t 6],ajR⟩
def alM:Cmd:=.seq (.ops [1,2,3,6] [bx 3 3 (.t 0),al 6 [B false,.emp,I 0],co 7 (.mv (.c (I 0)))]) (.seq (.ops [6,7] [fa 8 0 3,ld 9 1 8,fa 10 1 3,ld 11 1 10,fa 12 2 3,ld 13 1 12,cm 14 1,cm 15 2,ca 16 F.r03_Cut [.t 9,.t 11,.t 13,.c (B false),.t 14,.t 15],co 17 (.ext 0 (.t 16)),co 18 (.ext 1 (.t 16)),sr 3 (.t 6) (.t 17),cm 7 18]) (.ret))
def aj9:FD:=⟨3,[[.o 0 [],.o 2 [],.o 0 []],[]],[.cell 6 3 true,.t 7],alM⟩
def akE:Cmd:=.seq (.ops [1] [bx 1 3 (.t 0),co 2 (.mv (.c (I 0)))]) (.seq (.seq (.ops [1,6] [fa 3 1 1,ld 4 1 3,co 5 (.len false (.t 4)),co 6 (.bin .eql (.t 5) (.c (I 0)))]) (.cond (.t 6) (.seq (.ops [2] [co 2 (.mv (.c (I 0)))]) (.ret)) (.skip))) (.seq (.seq (.ops [8] [fa 7 0 1,ld 8 1 7]) (.cond (.t 8) (.seq (.ops [2] [co 2 (.mv (.c (I (-1))))]) (.ret)) (.skip))) (.seq (.ops [2] [co 2 (.mv (.c (I 1)))]) (.ret))))
def ajq:FD:=⟨1,[[]],[.t 2],akE⟩
def alt:Cmd:=.seq (.ops [1] [bx 1 3 (.t 0),co 2 (.mv (.c (I 0)))]) (.seq (.seq (.ops [1,6] [fa 3 1 1,ld 4 1 3,co 5 (.len false (.t 4)),co 6 (.bin .eql (.t 5) (.c (I 0)))]) (.cond (.t 6) (.seq (.ops [2] [co 2 (.mv (.c (I 0)))]) (.ret)) (.skip))) (.seq (.dops [2] [fa 7 1 1,ld 8 1 7,ca 9 F.r02_bits [.t 8],fa 10 2 1,ld 11 1 10,b2 12 .add 9 11,cm 2 12] [(2,4)]) (.ret)))
def aka:FD:=⟨1,[[]],[.t 2],alt⟩
def ajW:Cmd:=.seq (.seq (.ops [0,1,5,6,7,15] [cm 12 7,cm 13 0,co 14 (.len false (.t 13)),b2 15 .lss 12 14]) (.cond (.t 15) (.skip) (.exit 0))) (.seq (.block 1 [0,1,5,6,7] (.seq (.ops [0,1,5,7,8] [cm 18 0,cm 19 7,co 20 (.iadrS 1 (.t 18) (.t 19)),ld 21 1 20,co 22 (.cv .u64 (.t 21)),cm 23 1,co 24 (.bin .rem (.t 23) (.c (I 32))),co 25 (.cv .u64 (.t 24)),b2 26 .shl 22 25,cm 27 6,b2 28 .or 26 27,cm 8 28]) (.seq (.ops [0,1,5,7,8] [cm 29 5,cm 30 8,co 31 (.bin .and (.t 30) (.c (W 4294967295))),co 32 (.cv .u32 (.t 31)),⟨(some 33),none,.buildSl 1 [U 0] 1 [(0,.t 32)]⟩,⟨(some 34),none,.app 1 4 (.t 29) (.t 33)⟩,cm 5 34]) (.ops [0,1,5,6,7] [cm 35 8,co 36 (.bin .shr (.t 35) (.c (W 32))),cm 6 36])))) (.ops [0,1,5,6,7] [cm 16 7,co 17 (.bin .add (.t 16) (.c (I 1))),cm 7 17]))
def ame:Cmd:=.seq (.ops [0,1] [co 4 (.mv (.c .emp))]) (.seq (.ops [0,1,5] [cm 9 1,co 10 (.bin .quo (.t 9) (.c (I 32))),⟨(some 11),none,.mkSl 1 [U 0] 4 (.t 10) (.t 10)⟩,cm 5 11]) (.seq (.ops [0,1,5,6] [co 6 (.mv (.c (W 0)))]) (.seq (.seq (.ops [0,1,5,6,7] [co 7 (.mv (.c (I 0)))]) (.block 0 [5,6] (.loop [0,1,5,6,7] [11,34] ajW))) (.seq (.ops [4] [cm 37 5,cm 38 6,co 39 (.cv .u32 (.t 38)),⟨(some 40),none,.buildSl 1 [U 0] 1 [(0,.t 39)]⟩,⟨(some 41),none,.app 1 4 (.t 37) (.t 40)⟩,ca 42 F.r02_trim [.t 41],cm 4 42]) (.ret)))))
def akp:FD:=⟨2,[[.o 2 []]],[.t 4],ame⟩
def alU:Cmd:=.seq (.ops [0,1,2,6] [al 6 [B false,.emp,I 0]]) (.seq (.ops [0,1,2,6] [cm 8 1,ca 9 F.r02_trim [.t 8],cm 1 9]) (.seq (.seq (.ops [0,1,2,6,12] [cm 10 1,co 11 (.len false (.t 10)),co 12 (.bin .eql (.t 11) (.c (I 0)))]) (.cond (.t 12) (.seq (.ops [6] [co 13 (.build [B false,.emp,I 0] []),sr 3 (.t 6) (.t 13)]) (.ret)) (.skip))) (.seq (.ops [0,1,2,6,7] [cm 14 1,ca 15 F.r02_zeros [.t 14],cm 7 15]) (.seq (.ops [6] [cm 16 0,cm 17 1,cm 18 7,ca 19 F.r02_right [.t 17,.t 18],cm 20 2,cm 21 7,b2 22 .add 20 21,co 23 (.build [B false,.emp,I 0] [(0,1,.t 16),(1,1,.t 19),(2,1,.t 22)]),sr 3 (.t 6) (.t 23)]) (.ret)))))
def aku:FD:=⟨3,[[.o 0 [],.o 2 [],.o 0 []]],[.cell 6 3 true],alU⟩
def ad5:Cmd:=.seq (.seq (.ops [0,1,5,6,7,18] [cm 9 7,cm 10 0,co 11 (.len false (.t 10)),b2 12 .lss 9 11,cm 13 12,cg 14 13 false (.mv (.t 7)),cg 15 13 false (.mv (.t 1)),cg 16 13 false (.len false (.t 15)),cg 17 13 false (.bin .lss (.t 14) (.t 16)),co 18 (.pick (.t 13) (.c (B true)) (.t 17))]) (.cond (.t 18) (.skip) (.exit 0))) (.seq (.block 1 [0,1,5,6,7] (.seq (.ops [0,1,5,7,8] [cm 21 6,cm 8 21]) (.seq (.seq (.ops [0,1,5,7,8,25] [cm 22 7,cm 23 0,co 24 (.len false (.t 23)),b2 25 .lss 22 24]) (.cond (.t 25) (.ops [0,1,5,7,8] [cm 26 8,cm 27 0,cm 28 7,co 29 (.iadrS 1 (.t 27) (.t 28)),ld 30 1 29,co 31 (.cv .u64 (.t 30)),b2 32 .add 26 31,cm 8 32]) (.skip))) (.seq (.seq (.ops [0,1,5,7,8,36] [cm 33 7,cm 34 1,co 35 (.len false (.t 34)),b2 36 .lss 33 35]) (.cond (.t 36) (.ops [0,1,5,7,8] [cm 37 8,cm 38 1,cm 39 7,co 40 (.iadrS 1 (.t 38) (.t 39)),ld 41 1 40,co 42 (.cv .u64 (.t 41)),b2 43 .add 37 42,cm 8 43]) (.skip))) (.seq (.ops [0,1,5,7,8] [cm 44 5,cm 45 8,co 46 (.bin .and (.t 45) (.c (W 4294967295))),co 47 (.cv .u32 (.t 46)),⟨(some 48),none,.buildSl 1 [U 0] 1 [(0,.t 47)]⟩,⟨(some 49),none,.app 1 4 (.t 44) (.t 48)⟩,cm 5 49]) (.ops [0,1,5,6,7] [cm 50 8,co 51 (.bin .shr (.t 50) (.c (W 32))),cm 6 51])))))) (.ops [0,1,5,6,7] [cm 19 7,co 20 (.bin .add (.t 19) (.c (I 1))),cm 7 20]))
def amf:Cmd:=.seq (.ops [0,1] [co 4 (.mv (.c .emp))]) (.seq (.ops [0,1,5] [co 5 (.mv (.c .emp))]) (.seq (.ops [0,1,5,6] [co 6 (.mv (.c (W 0)))]) (.seq (.seq (.ops [0,1,5,6,7] [co 7 (.mv (.c (I 0)))]) (.block 0 [5,6] (.loop [0,1,5,6,7] [49] ad5))) (.seq (.ops [4] [cm 52 5,cm 53 6,co 54 (.cv .u32 (.t 53)),⟨(some 55),none,.buildSl 1 [U 0] 1 [(0,.t 54)]⟩,⟨(some 56),none,.app 1 4 (.t 52) (.t 55)⟩,ca 57 F.r02_trim [.t 56],cm 4 57]) (.ret)))))
def akq:FD:=⟨2,[[.o 2 []]],[.t 4],amf⟩
def ah8:Cmd:=.seq (.seq (.ops [0,1,5,20] [cm 19 5,co 20 (.bin .geq (.t 19) (.c (I 0)))]) (.cond (.t 20) (.skip) (.exit 0))) (.seq (.block 1 [0,1,5] (.seq (.seq (.dops [0,1,5,31] [cm 23 0,cm 24 5,co 25 (.iadrS 1 (.t 23) (.t 24)),ld 26 1 25,cm 27 1,cm 28 5,co 29 (.iadrS 1 (.t 27) (.t 28)),ld 30 1 29,b2 31 .lss 26 30] []) (.cond (.t 31) (.seq (.ops [4] [co 4 (.mv (.c (I (-1))))]) (.ret)) (.skip))) (.seq (.dops [0,1,5,40] [cm 32 0,cm 33 5,co 34 (.iadrS 1 (.t 32) (.t 33)),ld 35 1 34,cm 36 1,cm 37 5,co 38 (.iadrS 1 (.t 36) (.t 37)),ld 39 1 38,b2 40 .gtr 35 39] []) (.cond (.t 40) (.seq (.ops [4] [co 4 (.mv (.c (I 1)))]) (.ret)) (.skip))))) (.ops [0,1,5] [cm 21 5,co 22 (.bin .sub (.t 21) (.c (I 1))),cm 5 22]))
def ajk:Cmd:=.seq (.ops [0,1] [co 4 (.mv (.c (I 0)))]) (.seq (.seq (.ops [0,1,10] [cm 6 0,co 7 (.len false (.t 6)),cm 8 1,co 9 (.len false (.t 8)),b2 10 .neq 7 9]) (.cond (.t 10) (.seq (.seq (.ops [15] [cm 11 0,co 12 (.len false (.t 11)),cm 13 1,co 14 (.len false (.t 13)),b2 15 .lss 12 14]) (.cond (.t 15) (.seq (.ops [4] [co 4 (.mv (.c (I (-1))))]) (.ret)) (.skip))) (.seq (.ops [4] [co 4 (.mv (.c (I 1)))]) (.ret))) (.skip))) (.seq (.seq (.ops [0,1,5] [cm 16 0,co 17 (.len false (.t 16)),co 18 (.bin .sub (.t 17) (.c (I 1))),cm 5 18]) (.block 0 [] (.loop [0,1,5] [] ah8))) (.seq (.ops [4] [co 4 (.mv (.c (I 0)))]) (.ret))))
def ai9:FD:=⟨2,[[]],[.t 4],ajk⟩
def aid:Cmd:=.seq (.seq (.ops [0,1,5,6,7,13] [cm 10 7,cm 11 0,co 12 (.len false (.t 11)),b2 13 .lss 10 12]) (.cond (.t 13) (.skip) (.exit 0))) (.seq (.block 1 [0,1,5,6,7] (.seq (.ops [0,1,5,7,8] [cm 16 6,cm 8 16]) (.seq (.seq (.ops [0,1,5,7,8,20] [cm 17 7,cm 18 1,co 19 (.len false (.t 18)),b2 20 .lss 17 19]) (.cond (.t 20) (.ops [0,1,5,7,8] [cm 21 8,cm 22 1,cm 23 7,co 24 (.iadrS 1 (.t 22) (.t 23)),ld 25 1 24,co 26 (.cv .u64 (.t 25)),b2 27 .add 21 26,cm 8 27]) (.skip))) (.seq (.ops [0,1,5,7,9] [cm 28 0,cm 29 7,co 30 (.iadrS 1 (.t 28) (.t 29)),ld 31 1 30,co 32 (.cv .u64 (.t 31)),co 33 (.bin .add (.t 32) (.c (W 4294967296))),cm 34 8,b2 35 .sub 33 34,cm 9 35]) (.seq (.ops [0,1,5,7,9] [cm 36 5,cm 37 9,co 38 (.bin .and (.t 37) (.c (W 4294967295))),co 39 (.cv .u32 (.t 38)),⟨(some 40),none,.buildSl 1 [U 0] 1 [(0,.t 39)]⟩,⟨(some 41),none,.app 1 4 (.t 36) (.t 40)⟩,cm 5 41]) (.ops [0,1,5,6,7] [cm 42 9,co 43 (.bin .shr (.t 42) (.c (W 32))),co 44 (.bin .sub (.c (W 1)) (.t 43)),cm 6 44])))))) (.ops [0,1,5,6,7] [cm 14 7,co 15 (.bin .add (.t 14) (.c (I 1))),cm 7 15]))
def alN:Cmd:=.seq (.ops [0,1] [co 4 (.mv (.c .emp))]) (.seq (.ops [0,1,5] [co 5 (.mv (.c .emp))]) (.seq (.ops [0,1,5,6] [co 6 (.mv (.c (W 0)))]) (.seq (.seq (.ops [0,1,5,6,7] [co 7 (.mv (.c (I 0)))]) (.block 0 [5] (.loop [0,1,5,6,7] [41] aid))) (.seq (.ops [4] [cm 45 5,ca 46 F.r02_trim [.t 45],cm 4 46]) (.ret)))))
def akb:FD:=⟨2,[[.o 2 []]],[.t 4],alN⟩
def alo:Cmd:=.seq (.ops [2,3,4] [bx 2 3 (.t 0),bx 3 3 (.t 1),al 4 [B false,.emp,I 0]]) (.seq (.dops [4] [fa 5 0 2,ld 6 1 5,fa 7 0 3,ld 8 1 7,co 9 (.eqc true 0 (.t 6) (.t 8)),fa 10 1 2,ld 11 1 10,fa 12 1 3,ld 13 1 12,ca 14 F.r02_times [.t 11,.t 13],fa 15 2 2,ld 16 1 15,fa 17 2 3,ld 18 1 17,b2 19 .add 16 18,ca 20 F.r02_Of [.t 9,.t 14,.t 19],sr 3 (.t 4) (.t 20)] [(1,9),(3,9),(9,11),(9,13)]) (.ret))
def ajJ:FD:=⟨2,[[.o 0 [],.o 2 [],.o 0 []]],[.cell 4 3 true],alo⟩
def rJ:Cmd:=.seq (.ops [0] [co 2 (.mv (.c (B false)))]) (.seq (.ops [2] [cm 3 0,cm 4 0,b2 5 .neq 3 4,cm 2 5]) (.ret))
def jc:FD:=⟨1,[[]],[.t 2],rJ⟩
def vN:Cmd:=.seq (.ops [0,1] [co 4 (.mv (.c (I 0)))]) (.seq (.ops [4] [cm 5 0,cm 6 1,ca 7 F.internal_stringslite_IndexByte [.t 5,.t 6],cm 4 7]) (.ret))
def oJ:FD:=⟨2,[[]],[.t 4],vN⟩
def F3:Cmd:=.seq (.ops [0,1,2] [co 6 (.mv (.c (U 0))),co 7 (.mv (.c (U 0)))]) (.seq (.seq (.ops [0,1,2,15] [cm 9 2,co 10 (.bin .neq (.t 9) (.c (U 0))),cm 11 10,cg 12 11 true (.mv (.t 2)),cg 13 11 true (.mv (.t 0)),cg 14 11 true (.bin .leq (.t 12) (.t 13)),co 15 (.pick (.t 11) (.t 14) (.c (B false)))]) (.cond (.t 15) (.ops [0,1,2] [⟨(some 16),none,.load 1 false (.c .any)⟩,⟨none,none,.bad⟩]) (.skip))) (.seq (.ops [2,8] [cm 17 0,co 18 (.cv .u64 (.t 17)),co 19 (.bin .shl (.t 18) (.c (W 32))),cm 20 1,co 21 (.cv .u64 (.t 20)),b2 22 .or 19 21,cm 8 22]) (.seq (.dops [6,7] [cm 23 8,cm 24 2,co 25 (.cv .u64 (.t 24)),b2 26 .quo 23 25,co 27 (.cv .u32 (.t 26)),cm 28 8,cm 29 2,co 30 (.cv .u64 (.t 29)),b2 31 .rem 28 30,co 32 (.cv .u32 (.t 31)),cm 6 27,cm 7 32] []) (.ret))))
def vD:FD:=⟨3,[[],[]],[.t 6,.t 7],F3⟩
def oU:Cmd:=.seq (.ops [0,1] [co 4 (.mv (.c (.v (.string ⟨#[]⟩))))]) (.seq (.seq (.ops [0,1,10] [cm 9 1,co 10 (.bin .eql (.t 9) (.c (I 10)))]) (.cond (.t 10) (.seq (.seq (.ops [0,12] [cm 11 0,co 12 (.bin .lss (.t 11) (.c (W 100)))]) (.cond (.t 12) (.seq (.ops [4] [cm 13 0,co 14 (.cv .i64 (.t 13)),ca 15 F.internal_strconv_small [.t 14],cm 4 15]) (.ret)) (.skip))) (.seq (.ops [0] [al 5 [.v (.int .u8 0),.v (.int .u8 0),.v (.int .u8 0),.v (.int .u8 0),.v (.int .u8 0),.v (.int .u8 0),.v (.int .u8 0),.v (.int .u8 0),.v (.int .u8 0),.v (.int .u8 0),.v (.int .u8 0),.v (.int .u8 0),.v (.int .u8 0),.v (.int .u8 0),.v (.int .u8 0),.v (.int .u8 0),.v (.int .u8 0),.v (.int .u8 0),.v (.int .u8 0),.v (.int .u8 0),.v (.int .u8 0),.v (.int .u8 0),.v (.int .u8 0),.v (.int .u8 0)]]) (.seq (.ops [0,6] [cm 16 0,ca 17 F.internal_strconv_numDigits [.t 16],cm 6 17]) (.seq (.ops [6] [cm 18 6,⟨(some 19),none,.bad⟩,cm 20 0,ca 21 F.internal_strconv_formatBase10 [.t 19,.t 20]]) (.seq (.ops [4] [cm 22 6,⟨(some 23),none,.bad⟩,⟨(some 24),none,.bad⟩,cm 4 24]) (.ret)))))) (.skip))) (.seq (.ops [8] [cm 26 0,cm 27 1,ca 28 F.internal_strconv_formatBits [.c .emp,.t 26,.t 27,.c (B false),.c (B false)],cm 25 28,co 29 (.ext 0 (.t 25)),co 30 (.ext 1 (.t 25)),cm 7 29,cm 8 30]) (.seq (.ops [4] [cm 31 8,cm 4 31]) (.ret))))
def iF:FD:=⟨2,[[]],[.t 4],oU⟩
def rK:Cmd:=.seq (.ops [0] [co 2 (.mv (.c (.v (.string ⟨#[]⟩))))]) (.seq (.seq (.ops [0,4] [cm 3 0,co 4 (.bin .lss (.t 3) (.c (I 10)))]) (.cond (.t 4) (.seq (.ops [2] [cm 5 0,cm 6 0,co 7 (.bin .add (.t 6) (.c (I 1))),co 8 (.slcS (.c (.v (.string ⟨#[48,49,50,51,52,53,54,55,56,57,97,98,99,100,101,102,103,104,105,106,107,108,109,110,111,112,113,114,115,116,117,118,119,120,121,122]⟩))) (some (.t 5)) (some (.t 7))),cm 2 8]) (.ret)) (.skip))) (.seq (.ops [2] [cm 9 0,co 10 (.bin .mul (.t 9) (.c (I 2))),cm 11 0,co 12 (.bin .mul (.t 11) (.c (I 2))),co 13 (.bin .add (.t 12) (.c (I 2))),co 14 (.slcS (.c (.v (.string ⟨#[48,48,48,49,48,50,48,51,48,52,48,53,48,54,48,55,48,56,48,57,49,48,49,49,49,50,49,51,49,52,49,53,49,54,49,55,49,56,49,57,50,48,50,49,50,50,50,51,50,52,50,53,50,54,50,55,50,56,50,57,51,48,51,49,51,50,51,51,51,52,51,53,51,54,51,55,51,56,51,57,52,48,52,49,52,50,52,51,52,52,52,53,52,54,52,55,52,56,52,57,53,48,53,49,53,50,53,51,53,52,53,53,53,54,53,55,53,56,53,57,54,48,54,49,54,50,54,51,54,52,54,53,54,54,54,55,54,56,54,57,55,48,55,49,55,50,55,51,55,52,55,53,55,54,55,55,55,56,55,57,56,48,56,49,56,50,56,51,56,52,56,53,56,54,56,55,56,56,56,57,57,48,57,49,57,50,57,51,57,52,57,53,57,54,57,55,57,56,57,57]⟩))) (some (.t 10)) (some (.t 13))),cm 2 14]) (.ret)))
def lj:FD:=⟨1,[[]],[.t 2],rK⟩
def j1:Cmd:=.seq (.ops [1,5,6,21,22,23,24] [b2 24 .lss 23 22]) (.seq (.cond (.t 24) (.skip) (.exit 0)) (.seq (.block 1 [1,5,6,21,22,23] (.seq (.ops [1,5,6,8,21,22,23] [co 25 (.iadrS 1 (.t 21) (.t 23)),ld 26 1 25,cm 8 26]) (.seq (.ops [1,5,9,21,22,23] [cm 27 8,co 28 (.cv .u64 (.t 27)),cm 29 1,co 30 (.bin .rem (.t 29) (.c (I 32))),b2 31 .shl 28 30,cm 32 6,b2 33 .or 31 32,cm 9 33]) (.ops [1,5,6,21,22,23] [cm 34 5,cm 35 9,co 36 (.cv .u32 (.t 35)),⟨(some 37),none,.buildSl 1 [U 0] 1 [(0,.t 36)]⟩,⟨(some 38),none,.app 1 4 (.t 34) (.t 37)⟩,cm 39 9,co 40 (.bin .shr (.t 39) (.c (W 32))),cm 5 38,cm 6 40])))) (.ops [1,5,6,21,22,23] [co 41 (.bin .add (.t 23) (.c (I 1))),cm 23 41])))
def vE:Cmd:=.seq (.ops [0,1] [co 4 (.mv (.c .emp))]) (.seq (.ops [0,1] [cm 10 0,ca 11 F.natural_trim [.t 10],cm 0 11]) (.seq (.ops [0,1,5] [cm 12 1,co 13 (.bin .quo (.t 12) (.c (I 32))),cm 14 1,co 15 (.bin .quo (.t 14) (.c (I 32))),cm 16 0,co 17 (.len false (.t 16)),b2 18 .add 15 17,co 19 (.bin .add (.t 18) (.c (I 1))),⟨(some 20),none,.mkSl 1 [U 0] 4 (.t 13) (.t 19)⟩,cm 5 20]) (.seq (.ops [0,1,5,6] [co 6 (.mv (.c (W 0)))]) (.seq (.seq (.ops [1,5,6,21,22,23] [cm 21 0,co 22 (.len false (.t 21)),co 23 (.mv (.c (I 0)))]) (.block 0 [5,6] (.loop [1,5,6,21,22,23] [20,38] j1))) (.seq (.ops [4] [cm 42 5,cm 43 6,co 44 (.cv .u32 (.t 43)),⟨(some 45),none,.buildSl 1 [U 0] 1 [(0,.t 44)]⟩,⟨(some 46),none,.app 1 4 (.t 42) (.t 45)⟩,cm 4 46]) (.ret))))))
def me:FD:=⟨2,[[.o 2 []]],[.t 4],vE⟩
def wT:Cmd:=.seq (.ops [0,1,2] [co 6 (.mv (.c (U 0))),co 7 (.mv (.c (U 0)))]) (.seq (.ops [8] [cm 9 0,co 10 (.cv .u64 (.t 9)),cm 11 1,co 12 (.cv .u64 (.t 11)),b2 13 .add 10 12,cm 14 2,co 15 (.cv .u64 (.t 14)),b2 16 .add 13 15,cm 8 16]) (.seq (.ops [6,8] [cm 17 8,co 18 (.cv .u32 (.t 17)),cm 6 18]) (.seq (.ops [6,7] [cm 19 8,co 20 (.bin .shr (.t 19) (.c (W 32))),co 21 (.cv .u32 (.t 20)),cm 7 21]) (.ret))))
def m8:FD:=⟨3,[[],[]],[.t 6,.t 7],wT⟩
def wU:Cmd:=.seq (.ops [0,1,2] [co 6 (.mv (.c (U 0))),co 7 (.mv (.c (U 0)))]) (.seq (.ops [0,1,6] [cm 8 0,cm 9 1,b2 10 .sub 8 9,cm 11 2,b2 12 .sub 10 11,cm 6 12]) (.seq (.ops [6,7] [cm 13 0,co 14 (.un .xor (.t 13)),cm 15 1,b2 16 .and 14 15,cm 17 0,cm 18 1,b2 19 .xor 17 18,co 20 (.un .xor (.t 19)),cm 21 6,b2 22 .and 20 21,b2 23 .or 16 22,co 24 (.bin .shr (.t 23) (.c (W 31))),cm 7 24]) (.ret)))
def m9:FD:=⟨3,[[],[]],[.t 6,.t 7],wU⟩
def kM:Cmd:=.seq (.ops [0,1,7,8,9] [b2 9 .lss 8 7]) (.seq (.cond (.t 9) (.skip) (.exit 0)) (.seq (.block 1 [0,1,7,8] (.seq (.ops [0,1,5,7,8] [cm 10 8,cm 5 10]) (.seq (.ops [0,1,5,7,8,16] [cm 11 1,cm 12 0,cm 13 5,co 14 (.iadrS 1 (.t 12) (.t 13)),ld 15 1 14,⟨(some 16),none,.call (.t 11) [.t 15]⟩]) (.cond (.t 16) (.seq (.ops [4] [cm 17 5,cm 4 17]) (.ret)) (.skip))))) (.ops [0,1,7,8] [co 18 (.bin .add (.t 8) (.c (I 1))),cm 8 18])))
def mf:Cmd:=.seq (.ops [0,1] [co 4 (.mv (.c (I 0)))]) (.seq (.seq (.ops [0,1,7,8] [cm 6 0,co 7 (.len false (.t 6)),co 8 (.mv (.c (I 0)))]) (.block 0 [] (.loop [0,1,7,8] [] kM))) (.seq (.ops [4] [co 4 (.mv (.c (I (-1))))]) (.ret)))
def de:FD:=⟨2,[[]],[.t 4],mf⟩
def aiW:Cmd:=.seq (.ops [0,7,8,9,10] [b2 10 .lss 9 8]) (.seq (.cond (.t 10) (.skip) (.exit 0)) (.seq (.block 1 [0,7,8,9] (.seq (.ops [0,6,7,8,9] [co 11 (.iadrS 3 (.t 7) (.t 9)),la 12 3 11,al 6 [B false,.emp,I 0],sr 3 (.t 6) (.t 12)]) (.seq (.ops [0,7,8,9,15] [la 13 3 6,ca 14 F.dyadic_Valid [.t 13],co 15 (.un .not (.t 14))]) (.cond (.t 15) (.seq (.ops [4] [co 4 (.mv (.c (I 1)))]) (.ret)) (.skip))))) (.ops [0,7,8,9] [co 16 (.bin .add (.t 9) (.c (I 1))),cm 9 16])))
def ajX:Cmd:=.seq (.ops [0,1] [co 4 (.mv (.c (I 0)))]) (.seq (.seq (.ops [0,7,8,9] [cm 7 1,co 8 (.len false (.t 7)),co 9 (.mv (.c (I 0)))]) (.block 0 [0] (.loop [0,7,8,9] [] aiW))) (.seq (.seq (.ops [19] [cm 17 0,ca 18 F.round_precise [.t 17],co 19 (.un .not (.t 18))]) (.cond (.t 19) (.seq (.ops [4] [co 4 (.mv (.c (I 2)))]) (.ret)) (.skip))) (.seq (.ops [4] [co 4 (.mv (.c (I 0)))]) (.ret))))
def aiS:FD:=⟨2,[[]],[.t 4],ajX⟩
def ajK:Cmd:=.seq (.ops [0,2,3,5,8] [bx 5 3 (.t 1),al 8 [B false,.emp,I 0],co 9 (.mv (.c (I 0)))]) (.seq (.ops [0,8,10,11] [la 13 3 5,cm 14 2,cm 15 3,cm 16 0,co 17 (.eqc true 0 (.t 15) (.t 16)),ca 18 F.round_cut [.t 13,.t 14,.t 17],cm 12 18,co 19 (.ext 0 (.t 12)),co 20 (.ext 1 (.t 12)),al 10 [B false,.emp,I 0],sr 3 (.t 10) (.t 19),cm 11 20]) (.seq (.seq (.ops [8,10,11,25] [cm 21 11,co 22 (.bin .eql (.t 21) (.c (I 0))),cm 23 22,cg 24 23 true (.mv (.t 0)),co 25 (.pick (.t 23) (.t 24) (.c (B false)))]) (.cond (.t 25) (.ops [8,10,11] [la 26 3 10,ca 27 F.dyadic_Neg [.t 26],sr 3 (.t 10) (.t 27)]) (.skip))) (.seq (.ops [8,9] [la 28 3 10,cm 29 11,sr 3 (.t 8) (.t 28),cm 9 29]) (.ret))))
def aiH:FD:=⟨4,[[.o 0 [],.o 2 [],.o 0 []],[]],[.cell 8 3 true,.t 9],ajK⟩
def amg:Cmd:=.seq (.ops [1,2] [bx 1 3 (.t 0),al 2 [.emp,I 0,B false]]) (.seq (.ops [2] [fa 3 1 1,ld 4 1 3,fa 5 2 1,ld 6 1 5,co 7 (.build [.emp,I 0,B false] [(0,1,.t 4),(1,1,.t 6)]),sr 3 (.t 2) (.t 7)]) (.ret))
def akr:FD:=⟨1,[[.o 2 [],.o 0 [],.o 0 []]],[.cell 2 3 true],amg⟩
def ala:Cmd:=.seq (.ops [0] [co 2 (.mv (.c (B false)))]) (.seq (.ops [2] [cm 3 0,co 4 (.bin .geq (.t 3) (.c (I 8))),cm 5 4,cg 6 5 true (.mv (.t 0)),cg 7 5 true (.bin .leq (.t 6) (.c (I 512))),co 8 (.pick (.t 5) (.t 7) (.c (B false))),cm 2 8]) (.ret))
def ajS:FD:=⟨1,[[]],[.t 2],ala⟩
def am3:Cmd:=.seq (.ops [0,1,2,3,4,5,12] [al 12 [B false,.emp,I 0],co 13 (.mv (.c (I 0)))]) (.seq (.ops [0,1,2,3,4,5,12] [cm 18 1,ca 19 F.r01_Trim [.t 18],cm 1 19]) (.seq (.ops [0,1,2,3,4,5,12,14] [cm 20 1,ca 21 F.r01_Bits [.t 20],cm 14 21]) (.seq (.ops [0,1,2,3,4,5,12,15] [cm 22 14,cm 23 4,b2 24 .sub 22 23,cm 25 2,co 26 (.bin .sub (.c (I (-16384))) (.t 25)),co 27 (.mnx false (.t 24) [.t 26,.c (I 0)]),cm 15 27]) (.seq (.ops [0,1,2,3,4,5,12,15,16] [cm 28 1,cm 29 15,ca 30 F.r01_Shr [.t 28,.t 29],cm 16 30]) (.seq (.seq (.ops [0,2,3,4,5,12,15,16,40] [cm 31 15,co 32 (.bin .gtr (.t 31) (.c (I 0))),cm 33 32,cg 34 33 true (.mv (.t 16)),cg 35 33 true (.mv (.t 15)),⟨(some 36),(some (33,true)),.call (.c (.fn F.r01_Shl [] [])) [.t 34,.t 35]⟩,cg 37 33 true (.mv (.t 1)),⟨(some 38),(some (33,true)),.call (.c (.fn F.r01_Cmp [] [])) [.t 36,.t 37]⟩,cg 39 33 true (.bin .neq (.t 38) (.c (I 0))),co 40 (.pick (.t 33) (.t 39) (.c (B false)))]) (.cond (.t 40) (.ops [0,2,3,4,5,12,15,16] [co 3 (.mv (.c (B true)))]) (.skip))) (.seq (.ops [0,2,3,4,12,15,16,17] [cm 41 0,cm 42 5,co 43 (.eqc true 0 (.t 41) (.t 42)),cm 17 43]) (.seq (.seq (.ops [0,2,4,12,15,16,17,47] [cm 44 3,cm 45 44,cg 46 45 true (.mv (.t 17)),co 47 (.pick (.t 45) (.t 46) (.c (B false)))]) (.cond (.t 47) (.ops [0,2,4,12,15,16,17] [cm 48 16,⟨(some 49),none,.buildSl 1 [U 0] 1 [(0,.c (U 1))]⟩,ca 50 F.r01_Add [.t 48,.t 49],cm 16 50]) (.skip))) (.seq (.seq (.ops [0,2,4,12,15,16,17,62] [cm 51 16,ca 52 F.r01_Bits [.t 51],co 53 (.bin .gtr (.t 52) (.c (I 0))),cm 54 53,cg 55 54 true (.mv (.t 16)),⟨(some 56),(some (54,true)),.call (.c (.fn F.r01_Bits [] [])) [.t 55]⟩,cg 57 54 true (.mv (.t 2)),cg 58 54 true (.bin .add (.t 56) (.t 57)),cg 59 54 true (.mv (.t 15)),cg 60 54 true (.bin .add (.t 58) (.t 59)),cg 61 54 true (.bin .gtr (.t 60) (.c (I 16384))),co 62 (.pick (.t 54) (.t 61) (.c (B false)))]) (.cond (.t 62) (.seq (.seq (.ops [0,4,12,63] [cm 63 17]) (.cond (.t 63) (.seq (.ops [12,13] [co 64 (.build [B false,.emp,I 0] []),sr 3 (.t 12) (.t 64),co 13 (.mv (.c (I 9)))]) (.ret)) (.skip))) (.seq (.ops [12,13] [cm 65 0,cm 66 4,ca 67 F.r03_greatest [.t 65,.t 66],sr 3 (.t 12) (.t 67),co 13 (.mv (.c (I 0)))]) (.ret))) (.skip))) (.seq (.ops [12,13] [cm 68 0,cm 69 16,cm 70 2,cm 71 15,b2 72 .add 70 71,ca 73 F.r02_Of [.t 68,.t 69,.t 72],sr 3 (.t 12) (.t 73),co 13 (.mv (.c (I 0)))]) (.ret))))))))))
def ajg:FD:=⟨6,[[.o 0 [],.o 2 [],.o 0 []],[]],[.cell 12 3 true,.t 13],am3⟩
def ajL:Cmd:=.seq (.seq (.ops [0,3,14] [cm 4 0,cm 5 3,co 6 (.bin .quo (.t 5) (.c (I 32))),co 7 (.iadrS 1 (.t 4) (.t 6)),ld 8 1 7,cm 9 3,co 10 (.bin .rem (.t 9) (.c (I 32))),co 11 (.cv .u64 (.t 10)),b2 12 .shr 8 11,co 13 (.bin .and (.t 12) (.c (U 1))),co 14 (.bin .eql (.t 13) (.c (U 0)))]) (.cond (.t 14) (.skip) (.exit 0))) (.block 1 [0,3] (.ops [0,3] [cm 15 3,co 16 (.bin .add (.t 15) (.c (I 1))),cm 3 16]))
def alO:Cmd:=.seq (.ops [0] [co 2 (.mv (.c (I 0)))]) (.seq (.ops [0,3] [co 3 (.mv (.c (I 0)))]) (.seq (.block 0 [3] (.loop [0,3] [] ajL)) (.seq (.ops [2] [cm 17 3,cm 2 17]) (.ret))))
def akc:FD:=⟨1,[[]],[.t 2],alO⟩
def aie:Cmd:=.seq (.seq (.ops [0,1,5,6,20] [cm 17 6,cm 18 0,co 19 (.len false (.t 18)),b2 20 .lss 17 19]) (.cond (.t 20) (.skip) (.exit 0))) (.seq (.block 1 [0,1,5,6] (.seq (.ops [0,1,5,6,7] [cm 23 0,cm 24 6,co 25 (.iadrS 1 (.t 23) (.t 24)),ld 26 1 25,co 27 (.cv .u64 (.t 26)),cm 7 27]) (.seq (.seq (.ops [0,1,5,6,7,32] [cm 28 6,co 29 (.bin .add (.t 28) (.c (I 1))),cm 30 0,co 31 (.len false (.t 30)),b2 32 .lss 29 31]) (.cond (.t 32) (.ops [0,1,5,6,7] [cm 33 7,cm 34 0,cm 35 6,co 36 (.bin .add (.t 35) (.c (I 1))),co 37 (.iadrS 1 (.t 34) (.t 36)),ld 38 1 37,co 39 (.cv .u64 (.t 38)),co 40 (.bin .shl (.t 39) (.c (W 32))),b2 41 .or 33 40,cm 7 41]) (.skip))) (.ops [0,1,5,6] [cm 42 5,cm 43 7,cm 44 1,co 45 (.bin .rem (.t 44) (.c (I 32))),co 46 (.cv .u64 (.t 45)),b2 47 .shr 43 46,co 48 (.bin .and (.t 47) (.c (W 4294967295))),co 49 (.cv .u32 (.t 48)),⟨(some 50),none,.buildSl 1 [U 0] 1 [(0,.t 49)]⟩,⟨(some 51),none,.app 1 4 (.t 42) (.t 50)⟩,cm 5 51])))) (.ops [0,1,5,6] [cm 21 6,co 22 (.bin .add (.t 21) (.c (I 1))),cm 6 22]))
def akY:Cmd:=.seq (.ops [0,1] [co 4 (.mv (.c .emp))]) (.seq (.seq (.ops [0,1,12] [cm 8 1,co 9 (.bin .quo (.t 8) (.c (I 32))),cm 10 0,co 11 (.len false (.t 10)),b2 12 .geq 9 11]) (.cond (.t 12) (.seq (.ops [4] [co 4 (.mv (.c .emp))]) (.ret)) (.skip))) (.seq (.ops [0,1] [cm 13 0,cm 14 1,co 15 (.bin .quo (.t 14) (.c (I 32))),co 16 (.slc 1 (.t 13) (some (.t 15)) none none),cm 0 16]) (.seq (.ops [0,1,5] [co 5 (.mv (.c .emp))]) (.seq (.seq (.ops [0,1,5,6] [co 6 (.mv (.c (I 0)))]) (.block 0 [5] (.loop [0,1,5,6] [51] aie))) (.seq (.ops [4] [cm 52 5,ca 53 F.r02_trim [.t 52],cm 4 53]) (.ret))))))
def ajz:FD:=⟨2,[[.o 2 []]],[.t 4],akY⟩
def aja:Cmd:=.seq (.seq (.ops [0,1,5,6,7,10,67] [cm 66 7,co 67 (.bin .gtr (.t 66) (.c (W 0)))]) (.cond (.t 67) (.skip) (.exit 4))) (.seq (.block 5 [0,1,5,6,7,10] (.seq (.ops [0,1,5,6,10,11] [cm 70 5,cm 71 10,co 72 (.iadrS 1 (.t 70) (.t 71)),ld 73 1 72,co 74 (.cv .u64 (.t 73)),cm 75 7,b2 76 .add 74 75,cm 11 76]) (.seq (.ops [0,1,5,6,10,11] [cm 77 5,cm 78 10,cm 79 11,co 80 (.bin .and (.t 79) (.c (W 4294967295))),co 81 (.cv .u32 (.t 80)),co 82 (.iadrS 1 (.t 77) (.t 78)),sr 1 (.t 82) (.t 81)]) (.ops [0,1,5,6,7,10] [cm 83 11,co 84 (.bin .shr (.t 83) (.c (W 32))),cm 7 84])))) (.ops [0,1,5,6,7,10] [cm 68 10,co 69 (.bin .add (.t 68) (.c (I 1))),cm 10 69]))
def ajM:Cmd:=.seq (.seq (.ops [0,1,5,6,7,8,28] [cm 25 8,cm 26 1,co 27 (.len false (.t 26)),b2 28 .lss 25 27]) (.cond (.t 28) (.skip) (.exit 2))) (.seq (.block 3 [0,1,5,6,7,8] (.seq (.dops [0,1,5,6,8,9] [cm 31 0,cm 32 6,co 33 (.iadrS 1 (.t 31) (.t 32)),ld 34 1 33,co 35 (.cv .u64 (.t 34)),cm 36 1,cm 37 8,co 38 (.iadrS 1 (.t 36) (.t 37)),ld 39 1 38,co 40 (.cv .u64 (.t 39)),b2 41 .mul 35 40,cm 42 5,cm 43 6,cm 44 8,b2 45 .add 43 44,co 46 (.iadrS 1 (.t 42) (.t 45)),ld 47 1 46,co 48 (.cv .u64 (.t 47)),b2 49 .add 41 48,cm 50 7,b2 51 .add 49 50,cm 9 51] []) (.seq (.ops [0,1,5,6,8,9] [cm 52 5,cm 53 6,cm 54 8,b2 55 .add 53 54,cm 56 9,co 57 (.bin .and (.t 56) (.c (W 4294967295))),co 58 (.cv .u32 (.t 57)),co 59 (.iadrS 1 (.t 52) (.t 55)),sr 1 (.t 59) (.t 58)]) (.ops [0,1,5,6,7,8] [cm 60 9,co 61 (.bin .shr (.t 60) (.c (W 32))),cm 7 61])))) (.ops [0,1,5,6,7,8] [cm 29 8,co 30 (.bin .add (.t 29) (.c (I 1))),cm 8 30]))
def ajb:Cmd:=.seq (.seq (.ops [0,1,5,6,22] [cm 19 6,cm 20 0,co 21 (.len false (.t 20)),b2 22 .lss 19 21]) (.cond (.t 22) (.skip) (.exit 0))) (.seq (.block 1 [0,1,5,6] (.seq (.ops [0,1,5,6,7] [co 7 (.mv (.c (W 0)))]) (.seq (.seq (.ops [0,1,5,6,7,8] [co 8 (.mv (.c (I 0)))]) (.block 2 [0,1,5,6,7] (.loop [0,1,5,6,7,8] [18] ajM))) (.seq (.ops [0,1,5,6,7,10] [cm 62 6,cm 63 1,co 64 (.len false (.t 63)),b2 65 .add 62 64,cm 10 65]) (.block 4 [0,1,5,6] (.loop [0,1,5,6,7,10] [18] aja)))))) (.ops [0,1,5,6] [cm 23 6,co 24 (.bin .add (.t 23) (.c (I 1))),cm 6 24]))
def alP:Cmd:=.seq (.ops [0,1] [co 4 (.mv (.c .emp))]) (.seq (.ops [0,1,5] [cm 12 0,co 13 (.len false (.t 12)),cm 14 1,co 15 (.len false (.t 14)),b2 16 .add 13 15,co 17 (.bin .add (.t 16) (.c (I 1))),⟨(some 18),none,.mkSl 1 [U 0] 4 (.t 17) (.t 17)⟩,cm 5 18]) (.seq (.seq (.ops [0,1,5,6] [co 6 (.mv (.c (I 0)))]) (.block 0 [5] (.loop [0,1,5,6] [18] ajb))) (.seq (.ops [4] [cm 85 5,ca 86 F.r02_trim [.t 85],cm 4 86]) (.ret))))
def akd:FD:=⟨2,[[.o 2 []]],[.t 4],alP⟩
def ns:Cmd:=.seq (.ops [0,1] [co 4 (.mv (.c (I 0)))]) (.seq (.ops [4] [cm 5 0,cm 6 1,ca 7 F.internal_bytealg_IndexByteString [.t 5,.t 6],cm 4 7]) (.ret))
def gw:FD:=⟨2,[[]],[.t 4],ns⟩
def ake:Cmd:=.seq (.ops [0] [co 2 (.mv (.c (B false)))]) (.seq (.ops [2] [cm 3 0,co 4 (.bin .geq (.t 3) (.c (I 8))),cm 5 4,cg 6 5 true (.mv (.t 0)),cg 7 5 true (.bin .leq (.t 6) (.c (I 512))),co 8 (.pick (.t 5) (.t 7) (.c (B false))),cm 2 8]) (.ret))
def aiX:FD:=⟨1,[[]],[.t 2],ake⟩
def alQ:Cmd:=.seq (.ops [1,2,3,6] [bx 3 3 (.t 0),al 6 [B false,.emp,I 0],co 7 (.mv (.c (I 0)))]) (.seq (.dops [1,2,3,6,8] [fa 13 1 3,ld 14 1 13,fa 15 0 3,ld 16 1 15,ca 17 F.natural_Bits [.t 16],b2 18 .add 14 17,cm 19 1,b2 20 .sub 18 19,co 21 (.mnx false (.t 20) [.c (I (-16384))]),cm 8 21] [(1,4)]) (.seq (.dops [1,2,3,6,8,10] [fa 22 0 3,ld 23 1 22,fa 24 2 3,ld 25 1 24,cm 9 23,cm 10 25] []) (.seq (.seq (.ops [1,2,3,6,8,10,29] [fa 26 1 3,ld 27 1 26,cm 28 8,b2 29 .geq 27 28]) (.cond (.t 29) (.ops [1,2,6,8,9,10] [fa 30 0 3,ld 31 1 30,fa 32 1 3,ld 33 1 32,cm 34 8,b2 35 .sub 33 34,ca 36 F.round_shl [.t 31,.t 35],cm 9 36]) (.seq (.ops [1,2,6,8,10,11,12] [fa 38 0 3,ld 39 1 38,cm 40 8,fa 41 1 3,ld 42 1 41,b2 43 .sub 40 42,ca 44 F.round_shr [.t 39,.t 43],cm 37 44,co 45 (.ext 0 (.t 37)),co 46 (.ext 1 (.t 37)),cm 11 45,cm 12 46]) (.ops [1,2,6,8,9,10] [cm 47 11,cm 48 10,cm 49 48,cg 50 49 false (.mv (.t 12)),co 51 (.pick (.t 49) (.c (B true)) (.t 50)),cm 9 47,cm 10 51])))) (.seq (.seq (.ops [1,2,6,8,9,55] [cm 52 2,cm 53 52,cg 54 53 true (.mv (.t 10)),co 55 (.pick (.t 53) (.t 54) (.c (B false)))]) (.cond (.t 55) (.ops [1,2,6,8,9] [cm 57 9,⟨(some 58),none,.buildSl 1 [U 0] 1 [(0,.c (U 1))]⟩,ca 59 F.natural_Add [.t 57,.t 58],cm 56 59,co 60 (.ext 0 (.t 56)),co 61 (.ext 1 (.t 56)),cm 9 60]) (.skip))) (.seq (.seq (.ops [1,2,6,8,9,66] [cm 62 9,ca 63 F.natural_Bits [.t 62],cm 64 8,b2 65 .add 63 64,co 66 (.bin .gtr (.t 65) (.c (I 16384)))]) (.cond (.t 66) (.seq (.seq (.ops [1,6,67] [cm 67 2]) (.cond (.t 67) (.seq (.ops [6,7] [co 68 (.build [B false,.emp,I 0] []),sr 3 (.t 6) (.t 68),co 7 (.mv (.c (I 9)))]) (.ret)) (.skip))) (.seq (.ops [1,6,9] [⟨(some 70),none,.buildSl 1 [U 0] 1 [(0,.c (U 1))]⟩,cm 71 1,ca 72 F.round_shl [.t 70,.t 71],⟨(some 73),none,.buildSl 1 [U 0] 1 [(0,.c (U 1))]⟩,ca 74 F.natural_Sub [.t 72,.t 73],cm 69 74,co 75 (.ext 0 (.t 69)),co 76 (.ext 1 (.t 69)),cm 9 75]) (.ops [6,8,9] [cm 77 1,co 78 (.bin .sub (.c (I 16384)) (.t 77)),cm 8 78]))) (.skip))) (.seq (.ops [6,7] [cm 79 9,cm 80 8,ca 81 F.dyadic_Make [.c (B false),.t 79,.t 80],co 82 (.ext 0 (.t 81)),co 83 (.ext 1 (.t 81)),sr 3 (.t 6) (.t 82),cm 7 83]) (.ret)))))))
def ajc:FD:=⟨3,[[.o 0 [],.o 2 [],.o 0 []],[]],[.cell 6 3 true,.t 7],alQ⟩
def alp:Cmd:=.seq (.seq (.ops [0,3,15] [cm 6 3,co 7 (.bin .gtr (.t 6) (.c (I 0))),cm 8 7,cg 9 8 true (.mv (.t 0)),cg 10 8 true (.mv (.t 3)),cg 11 8 true (.bin .sub (.t 10) (.c (I 1))),cg 12 8 true (.iadrS 1 (.t 9) (.t 11)),⟨(some 13),(some (8,true)),.load 1 false (.t 12)⟩,cg 14 8 true (.bin .eql (.t 13) (.c (U 0))),co 15 (.pick (.t 8) (.t 14) (.c (B false)))]) (.cond (.t 15) (.skip) (.exit 0))) (.block 1 [0,3] (.ops [0,3] [cm 16 3,co 17 (.bin .sub (.t 16) (.c (I 1))),cm 3 17]))
def amh:Cmd:=.seq (.ops [0] [co 2 (.mv (.c .emp))]) (.seq (.ops [0,3] [cm 4 0,co 5 (.len false (.t 4)),cm 3 5]) (.seq (.block 0 [0,3] (.loop [0,3] [] alp)) (.seq (.ops [2] [⟨(some 18),none,.buildSl 1 [U 0] 0 []⟩,cm 19 0,cm 20 3,co 21 (.slc 1 (.t 19) none (some (.t 20)) none),⟨(some 22),none,.app 1 4 (.t 18) (.t 21)⟩,cm 2 22]) (.ret))))
def aks:FD:=⟨1,[[.o 2 []]],[.t 2],amh⟩
def ai0:Cmd:=.seq (.seq (.ops [4,5,25] [cm 24 5,co 25 (.bin .gtr (.t 24) (.c (U 0)))]) (.cond (.t 25) (.skip) (.exit 2))) (.seq (.block 3 [4,5] (.ops [4,5] [cm 28 4,co 29 (.bin .add (.t 28) (.c (I 1))),cm 4 29])) (.ops [4,5] [cm 26 5,co 27 (.bin .shr (.t 26) (.c (W 1))),cm 5 27]))
def ail:Cmd:=.seq (.seq (.ops [0,3,10] [cm 9 3,co 10 (.bin .geq (.t 9) (.c (I 0)))]) (.cond (.t 10) (.skip) (.exit 0))) (.seq (.block 1 [0,3] (.seq (.ops [0,3,17] [cm 13 0,cm 14 3,co 15 (.iadrS 1 (.t 13) (.t 14)),ld 16 1 15,co 17 (.bin .neq (.t 16) (.c (U 0)))]) (.cond (.t 17) (.seq (.ops [0,3,4] [cm 18 3,co 19 (.bin .mul (.c (I 32)) (.t 18)),cm 4 19]) (.seq (.seq (.ops [4,5] [cm 20 0,cm 21 3,co 22 (.iadrS 1 (.t 20) (.t 21)),ld 23 1 22,cm 5 23]) (.block 2 [4] (.loop [4,5] [] ai0))) (.seq (.ops [2] [cm 30 4,cm 2 30]) (.ret)))) (.skip)))) (.ops [0,3] [cm 11 3,co 12 (.bin .sub (.t 11) (.c (I 1))),cm 3 12]))
def alb:Cmd:=.seq (.ops [0] [co 2 (.mv (.c (I 0)))]) (.seq (.seq (.ops [0,3] [cm 6 0,co 7 (.len false (.t 6)),co 8 (.bin .sub (.t 7) (.c (I 1))),cm 3 8]) (.block 0 [] (.loop [0,3] [] ail))) (.seq (.ops [2] [co 2 (.mv (.c (I 0)))]) (.ret)))
def akZ:FD:=⟨1,[[]],[.t 2],alb⟩
def aij:Cmd:=.seq (.seq (.ops [0,1,5,6,13] [cm 10 6,cm 11 0,co 12 (.len false (.t 11)),b2 13 .lss 10 12]) (.cond (.t 13) (.skip) (.exit 0))) (.seq (.block 1 [0,1,5,6] (.seq (.ops [0,1,5,6,7] [cm 16 0,cm 17 6,ca 18 F.r01_at [.t 16,.t 17],cm 19 0,cm 20 6,co 21 (.bin .add (.t 20) (.c (I 1))),ca 22 F.r01_at [.t 19,.t 21],co 23 (.bin .shl (.t 22) (.c (W 32))),b2 24 .add 18 23,cm 7 24]) (.ops [0,1,5,6] [cm 25 5,cm 26 7,cm 27 1,co 28 (.bin .rem (.t 27) (.c (I 32))),b2 29 .shr 26 28,co 30 (.bin .and (.t 29) (.c (W 4294967295))),co 31 (.cv .u32 (.t 30)),⟨(some 32),none,.buildSl 1 [U 0] 1 [(0,.t 31)]⟩,⟨(some 33),none,.app 1 4 (.t 25) (.t 32)⟩,cm 5 33]))) (.ops [0,1,5,6] [cm 14 6,co 15 (.bin .add (.t 14) (.c (I 1))),cm 6 15]))
def alu:Cmd:=.seq (.ops [0,1] [co 4 (.mv (.c .emp))]) (.seq (.ops [0,1,5] [co 5 (.mv (.c .emp))]) (.seq (.seq (.ops [0,1,5,6] [cm 8 1,co 9 (.bin .quo (.t 8) (.c (I 32))),cm 6 9]) (.block 0 [5] (.loop [0,1,5,6] [33] aij))) (.seq (.ops [4] [cm 34 5,ca 35 F.r01_Trim [.t 34],cm 4 35]) (.ret))))
def akf:FD:=⟨2,[[.o 2 []]],[.t 4],alu⟩
def aip:Cmd:=.seq (.seq (.ops [0,1,5,13] [cm 12 5,co 13 (.bin .geq (.t 12) (.c (I 0)))]) (.cond (.t 13) (.skip) (.exit 0))) (.seq (.block 1 [0,1,5] (.seq (.seq (.ops [0,1,5,22] [cm 16 0,cm 17 5,ca 18 F.r01_at [.t 16,.t 17],cm 19 1,cm 20 5,ca 21 F.r01_at [.t 19,.t 20],b2 22 .lss 18 21]) (.cond (.t 22) (.seq (.ops [4] [co 4 (.mv (.c (I (-1))))]) (.ret)) (.skip))) (.seq (.ops [0,1,5,29] [cm 23 0,cm 24 5,ca 25 F.r01_at [.t 23,.t 24],cm 26 1,cm 27 5,ca 28 F.r01_at [.t 26,.t 27],b2 29 .gtr 25 28]) (.cond (.t 29) (.seq (.ops [4] [co 4 (.mv (.c (I 1)))]) (.ret)) (.skip))))) (.ops [0,1,5] [cm 14 5,co 15 (.bin .sub (.t 14) (.c (I 1))),cm 5 15]))
def alv:Cmd:=.seq (.ops [0,1] [co 4 (.mv (.c (I 0)))]) (.seq (.seq (.ops [0,1,5] [cm 6 0,co 7 (.len false (.t 6)),cm 8 1,co 9 (.len false (.t 8)),co 10 (.mnx false (.t 7) [.t 9]),co 11 (.bin .sub (.t 10) (.c (I 1))),cm 5 11]) (.block 0 [] (.loop [0,1,5] [] aip))) (.seq (.ops [4] [co 4 (.mv (.c (I 0)))]) (.ret)))
def alc:FD:=⟨2,[[]],[.t 4],alv⟩
def akg:Cmd:=.seq (.seq (.ops [0,1,5,6,20] [cm 17 6,cm 18 0,co 19 (.len false (.t 18)),b2 20 .lss 17 19]) (.cond (.t 20) (.skip) (.exit 0))) (.seq (.block 1 [0,1,5,6] (.seq (.ops [0,1,5,6,7] [cm 23 0,cm 24 6,co 25 (.iadrS 1 (.t 23) (.t 24)),ld 26 1 25,co 27 (.cv .u64 (.t 26)),cm 28 1,co 29 (.bin .rem (.t 28) (.c (I 32))),b2 30 .shl 27 29,cm 7 30]) (.seq (.ops [0,1,5,6,7] [cm 31 5,cm 32 6,cm 33 1,co 34 (.bin .quo (.t 33) (.c (I 32))),b2 35 .add 32 34,cm 36 5,cm 37 6,cm 38 1,co 39 (.bin .quo (.t 38) (.c (I 32))),b2 40 .add 37 39,co 41 (.iadrS 1 (.t 36) (.t 40)),ld 42 1 41,cm 43 7,co 44 (.bin .and (.t 43) (.c (W 4294967295))),co 45 (.cv .u32 (.t 44)),b2 46 .or 42 45,co 47 (.iadrS 1 (.t 31) (.t 35)),sr 1 (.t 47) (.t 46)]) (.ops [0,1,5,6] [cm 48 5,cm 49 6,cm 50 1,co 51 (.bin .quo (.t 50) (.c (I 32))),b2 52 .add 49 51,co 53 (.bin .add (.t 52) (.c (I 1))),cm 54 7,co 55 (.bin .shr (.t 54) (.c (W 32))),co 56 (.cv .u32 (.t 55)),co 57 (.iadrS 1 (.t 48) (.t 53)),sr 1 (.t 57) (.t 56)])))) (.ops [0,1,5,6] [cm 21 6,co 22 (.bin .add (.t 21) (.c (I 1))),cm 6 22]))
def am4:Cmd:=.seq (.ops [0,1] [co 4 (.mv (.c .emp))]) (.seq (.ops [0,1] [cm 8 0,ca 9 F.r01_Trim [.t 8],cm 0 9]) (.seq (.ops [0,1,5] [cm 10 1,co 11 (.bin .quo (.t 10) (.c (I 32))),cm 12 0,co 13 (.len false (.t 12)),b2 14 .add 11 13,co 15 (.bin .add (.t 14) (.c (I 1))),⟨(some 16),none,.mkSl 1 [U 0] 4 (.t 15) (.t 15)⟩,cm 5 16]) (.seq (.seq (.ops [0,1,5,6] [co 6 (.mv (.c (I 0)))]) (.block 0 [5] (.loop [0,1,5,6] [16] akg))) (.seq (.ops [4] [cm 58 5,ca 59 F.r01_Trim [.t 58],cm 4 59]) (.ret)))))
def akF:FD:=⟨2,[[.o 2 []]],[.t 4],am4⟩
def aik:Cmd:=.seq (.seq (.ops [0,1,5,6,7,19] [cm 9 7,cm 10 0,co 11 (.len false (.t 10)),cm 12 1,co 13 (.len false (.t 12)),co 14 (.mnx false (.t 11) [.t 13]),b2 15 .lss 9 14,cm 16 15,cg 17 16 false (.mv (.t 6)),cg 18 16 false (.bin .gtr (.t 17) (.c (W 0))),co 19 (.pick (.t 16) (.c (B true)) (.t 18))]) (.cond (.t 19) (.skip) (.exit 0))) (.seq (.block 1 [0,1,5,6,7] (.seq (.ops [0,1,5,7,8] [cm 22 0,cm 23 7,ca 24 F.r01_at [.t 22,.t 23],cm 25 1,cm 26 7,ca 27 F.r01_at [.t 25,.t 26],b2 28 .add 24 27,cm 29 6,b2 30 .add 28 29,cm 8 30]) (.seq (.ops [0,1,5,7,8] [cm 31 5,cm 32 8,co 33 (.bin .and (.t 32) (.c (W 4294967295))),co 34 (.cv .u32 (.t 33)),⟨(some 35),none,.buildSl 1 [U 0] 1 [(0,.t 34)]⟩,⟨(some 36),none,.app 1 4 (.t 31) (.t 35)⟩,cm 5 36]) (.ops [0,1,5,6,7] [cm 37 8,co 38 (.bin .shr (.t 37) (.c (W 32))),cm 6 38])))) (.ops [0,1,5,6,7] [cm 20 7,co 21 (.bin .add (.t 20) (.c (I 1))),cm 7 21]))
def am5:Cmd:=.seq (.ops [0,1] [co 4 (.mv (.c .emp))]) (.seq (.ops [0,1,5] [co 5 (.mv (.c .emp))]) (.seq (.ops [0,1,5,6] [co 6 (.mv (.c (W 0)))]) (.seq (.seq (.ops [0,1,5,6,7] [co 7 (.mv (.c (I 0)))]) (.block 0 [5] (.loop [0,1,5,6,7] [36] aik))) (.seq (.ops [4] [cm 39 5,ca 40 F.r01_Trim [.t 39],cm 4 40]) (.ret)))))
def akG:FD:=⟨2,[[.o 2 []]],[.t 4],am5⟩
def ak2:Cmd:=.seq (.ops [0,1,4] [al 4 [B false,.emp,I 0]]) (.seq (.ops [0,1,4,5] [⟨(some 6),none,.buildSl 1 [U 0] 1 [(0,.c (U 1))]⟩,cm 7 1,ca 8 F.r01_Shl [.t 6,.t 7],⟨(some 9),none,.buildSl 1 [U 0] 1 [(0,.c (U 1))]⟩,ca 10 F.r01_Sub [.t 8,.t 9],cm 5 10]) (.seq (.ops [4] [cm 11 0,cm 12 5,cm 13 1,co 14 (.bin .sub (.c (I 16384)) (.t 13)),ca 15 F.r02_Of [.t 11,.t 12,.t 14],sr 3 (.t 4) (.t 15)]) (.ret)))
def ajt:FD:=⟨2,[[.o 0 [],.o 2 [],.o 0 []]],[.cell 4 3 true],ak2⟩
def alR:Cmd:=.seq (.ops [0,1] [co 4 (.mv (.c .emp))]) (.seq (.ops [5] [cm 8 0,cm 9 1,ca 10 F.natural_Shl [.t 8,.t 9],cm 7 10,co 11 (.ext 0 (.t 7)),co 12 (.ext 1 (.t 7)),cm 5 11,cm 6 12]) (.seq (.ops [4] [cm 13 5,cm 4 13]) (.ret)))
def akh:FD:=⟨2,[[.o 2 []]],[.t 4],alR⟩
def ak0:Cmd:=.seq (.ops [0,1] [co 4 (.mv (.c .emp)),co 5 (.mv (.c (B false)))]) (.seq (.seq (.ops [0,1,11] [cm 8 1,cm 9 0,ca 10 F.natural_Bits [.t 9],b2 11 .gtr 8 10]) (.cond (.t 11) (.ops [0,1] [cm 12 0,ca 13 F.natural_Bits [.t 12],cm 1 13]) (.skip))) (.seq (.ops [0,1,6] [cm 15 0,cm 16 1,ca 17 F.natural_Shr [.t 15,.t 16],cm 14 17,co 18 (.ext 0 (.t 14)),co 19 (.ext 1 (.t 14)),cm 6 18,cm 7 19]) (.seq (.ops [4,5] [cm 20 6,cm 21 6,cm 22 1,ca 23 F.round_shl [.t 21,.t 22],cm 24 0,ca 25 F.natural_Cmp [.t 23,.t 24],co 26 (.bin .neq (.t 25) (.c (I 0))),cm 4 20,cm 5 26]) (.ret))))
def ajA:FD:=⟨2,[[.o 2 []],[]],[.t 4,.t 5],ak0⟩
def ajl:Cmd:=.seq (.ops [0,1,2,6] [al 6 [B false,.emp,I 0],co 7 (.mv (.c (I 0)))]) (.seq (.seq (.ops [0,1,2,6,15] [cm 8 1,co 9 (.len false (.t 8)),co 10 (.bin .gtr (.t 9) (.c (I 256))),cm 11 10,cg 12 11 false (.mv (.t 2)),⟨(some 13),(some (11,false)),.call (.c (.fn F.dyadic_exponent [] [])) [.t 12]⟩,cg 14 11 false (.un .not (.t 13)),co 15 (.pick (.t 11) (.c (B true)) (.t 14))]) (.cond (.t 15) (.seq (.ops [6,7] [co 16 (.build [B false,.emp,I 0] []),sr 3 (.t 6) (.t 16),co 7 (.mv (.c (I 1)))]) (.ret)) (.skip))) (.seq (.ops [6,7] [cm 17 0,cm 18 1,cm 19 2,ca 20 F.dyadic_canonical [.t 17,.t 18,.t 19],ca 21 F.dyadic_checked [.t 20],co 22 (.ext 0 (.t 21)),co 23 (.ext 1 (.t 21)),sr 3 (.t 6) (.t 22),cm 7 23]) (.ret)))
def aiw:FD:=⟨3,[[.o 0 [],.o 2 [],.o 0 []],[]],[.cell 6 3 true,.t 7],ajl⟩
def alV:Cmd:=.seq (.ops [0,1] [co 4 (.mv (.c (W 0)))]) (.seq (.seq (.ops [0,1,8] [cm 5 1,cm 6 0,co 7 (.len false (.t 6)),b2 8 .lss 5 7]) (.cond (.t 8) (.seq (.ops [4] [cm 9 0,cm 10 1,co 11 (.iadrS 1 (.t 9) (.t 10)),ld 12 1 11,co 13 (.cv .u64 (.t 12)),cm 4 13]) (.ret)) (.skip))) (.seq (.ops [4] [co 4 (.mv (.c (W 0)))]) (.ret)))
def akv:FD:=⟨2,[[]],[.t 4],alV⟩
def aiD:Cmd:=.seq (.seq (.ops [0,1,5,6,7,12] [cm 9 7,cm 10 0,co 11 (.len false (.t 10)),b2 12 .lss 9 11]) (.cond (.t 12) (.skip) (.exit 0))) (.seq (.block 1 [0,1,5,6,7] (.seq (.ops [0,1,5,7,8] [cm 15 0,cm 16 7,ca 17 F.r01_at [.t 15,.t 16],co 18 (.bin .add (.t 17) (.c (W 4294967296))),cm 19 1,cm 20 7,ca 21 F.r01_at [.t 19,.t 20],b2 22 .sub 18 21,cm 23 6,b2 24 .sub 22 23,cm 8 24]) (.seq (.ops [0,1,5,7,8] [cm 25 5,cm 26 8,co 27 (.bin .and (.t 26) (.c (W 4294967295))),co 28 (.cv .u32 (.t 27)),⟨(some 29),none,.buildSl 1 [U 0] 1 [(0,.t 28)]⟩,⟨(some 30),none,.app 1 4 (.t 25) (.t 29)⟩,cm 5 30]) (.ops [0,1,5,6,7] [cm 31 8,co 32 (.bin .shr (.t 31) (.c (W 32))),co 33 (.bin .sub (.c (W 1)) (.t 32)),cm 6 33])))) (.ops [0,1,5,6,7] [cm 13 7,co 14 (.bin .add (.t 13) (.c (I 1))),cm 7 14]))
def am6:Cmd:=.seq (.ops [0,1] [co 4 (.mv (.c .emp))]) (.seq (.ops [0,1,5] [co 5 (.mv (.c .emp))]) (.seq (.ops [0,1,5,6] [co 6 (.mv (.c (W 0)))]) (.seq (.seq (.ops [0,1,5,6,7] [co 7 (.mv (.c (I 0)))]) (.block 0 [5] (.loop [0,1,5,6,7] [30] aiD))) (.seq (.ops [4] [cm 34 5,ca 35 F.r01_Trim [.t 34],cm 4 35]) (.ret)))))
def akH:FD:=⟨2,[[.o 2 []]],[.t 4],am6⟩
def ajO:Cmd:=.seq (.ops [0] [co 2 (.mv (.c (B false)))]) (.seq (.ops [2] [cm 3 0,co 4 (.bin .geq (.t 3) (.c (I (-32768)))),cm 5 4,cg 6 5 true (.mv (.t 0)),cg 7 5 true (.bin .leq (.t 6) (.c (I 32768))),co 8 (.pick (.t 5) (.t 7) (.c (B false))),cm 2 8]) (.ret))
def aiE:FD:=⟨1,[[]],[.t 2],ajO⟩
def Pd:List (Nat × FD):=[(6,ais),
 (8,wM),
 (9,oB),
 (10,wN),
 (13,eO),
 (14,gu),
 (15,mN),
 (17,aeV),
 (21,ij),
 (22,yF),
 (23,ad6),
 (24,dh),
 (26,aji),
 (27,ajv),
 (28,ajn),
 (29,aiJ),
 (30,aiT),
 (31,akt),
 (32,aiP),
 (33,ai1),
 (34,ez),
 (35,gB),
 (36,so),
 (37,cw),
 (38,gC),
 (39,cx),
 (40,gP),
 (41,fg),
 (42,tr),
 (43,yG),
 (45,akQ),
 (46,aiC),
 (50,mZ),
 (51,kB),
 (52,dY),
 (53,ck),
 (54,bY),
 (55,jn),
 (56,bZ),
 (60,dH),
 (61,adK),
 (62,aeY),
 (64,cL),
 (65,aeZ),
 (67,dI),
 (68,vn),
 (69,l5),
 (70,jo),
 (71,fR),
 (72,eK),
 (73,l6),
 (74,akC),
 (75,aiv),
 (76,aiL),
 (77,ah9),
 (78,aif),
 (79,ajF),
 (80,aj7),
 (81,ajp),
 (82,aia),
 (83,aj8),
 (84,ajG),
 (85,dT),
 (86,iy),
 (87,kC),
 (88,cJ),
 (89,cK),
 (90,fS),
 (91,yH),
 (92,tu),
 (93,sq),
 (95,iz),
 (96,kY),
 (97,lL),
 (98,aiQ),
 (103,bg),
 (104,eH),
 (105,aH),
 (106,l7),
 (107,cd),
 (108,bK),
 (109,eQ),
 (110,ew),
 (111,adS),
 (112,cI),
 (113,ik),
 (114,i8),
 (115,jp),
 (116,gD),
 (117,gE),
 (118,cM),
 (119,iC),
 (120,kZ),
 (121,iD),
 (122,l8),
 (123,lg),
 (124,i9),
 (125,m6),
 (126,gF),
 (127,cY),
 (128,ajU),
 (129,akn),
 (130,ajy),
 (131,aio),
 (132,ai3),
 (133,ai7),
 (134,ajQ),
 (135,ajI),
 (136,eS),
 (137,dz),
 (138,cE),
 (139,wQ),
 (140,rH),
 (141,nL),
 (143,gR),
 (144,su),
 (145,jr),
 (146,iV),
 (150,ako),
 (154,eU),
 (155,js),
 (156,l9),
 (157,fL),
 (158,cF),
 (159,ja),
 (161,jt),
 (162,ai8),
 (163,aiV),
 (164,aj9),
 (165,ajq),
 (166,aka),
 (167,akp),
 (168,aku),
 (169,akq),
 (170,ai9),
 (171,akb),
 (172,ajJ),
 (173,jc),
 (174,oJ),
 (175,vD),
 (176,iF),
 (182,lj),
 (190,me),
 (191,m8),
 (192,m9),
 (193,de),
 (194,aiS),
 (195,aiH),
 (196,akr),
 (197,ajS),
 (198,ajg),
 (199,akc),
 (200,ajz),
 (201,akd),
 (202,gw),
 (213,aiX),
 (214,ajc),
 (215,aks),
 (216,akZ),
 (217,akf),
 (218,alc),
 (219,akF),
 (220,akG),
 (221,ajt),
 (225,akh),
 (226,ajA),
 (227,aiw),
 (228,akv),
 (229,akH),
 (230,aiE)]
def shL:List (Nat × List (List Sh)):=[(6,[[.o 0 [],.o 5 [.o 2 [],.o 0 [],.o 2 [],.o 0 []]],[],[],[],[.o 0 [],.o 2 [],.o 0 []]]),
 (9,[[.o 3 [.o 0 [],.o 5 [.o 2 [],.o 0 [],.o 0 [],.o 0 []]]]]),
 (10,[[.o 0 [],.o 5 [.o 2 [],.o 0 [],.o 2 [],.o 0 []]],[.o 2 []]]),
 (13,[[.o 0 [],.o 5 [.o 2 [],.o 0 [],.o 2 [],.o 0 []]],[]]),
 (14,[[.o 0 [],.o 5 [.o 2 [],.o 0 [],.o 2 [],.o 0 []]],[.o 0 [],.o 5 [.o 2 [],.o 0 [],.o 2 [],.o 0 []]]]),
 (15,[[.o 0 [],.o 5 [.o 2 [],.o 0 [],.o 2 [],.o 0 []]],[.o 0 [],.o 5 [.o 2 [],.o 0 [],.o 2 [],.o 0 []]]]),
 (17,[[.o 4 [.o 0 [],.o 2 [],.o 0 []]]]),
 (21,[[.o 0 [],.o 2 [],.o 0 []],[.o 0 [],.o 2 [],.o 0 []]]),
 (22,[[.o 0 [],.o 5 [.o 2 [],.o 0 [],.o 2 [],.o 0 []]],[.o 0 [],.o 5 [.o 2 [],.o 0 [],.o 2 [],.o 0 []]]]),
 (23,[[.o 0 [],.o 2 [],.o 0 []],[.o 0 [],.o 2 [],.o 0 []]]),
 (24,[[.o 0 [],.o 2 [],.o 0 []],[.o 0 [],.o 2 [],.o 0 []]]),
 (26,[[.o 0 [],.o 5 [.o 2 [],.o 0 [],.o 2 [],.o 0 []]],[]]),
 (27,[[.o 0 [],.o 5 [.o 2 [],.o 0 [],.o 2 [],.o 0 []]],[]]),
 (28,[[.o 0 [],.o 5 [.o 2 [],.o 0 [],.o 2 [],.o 0 []]],[.o 0 [],.o 5 [.o 2 [],.o 0 [],.o 2 [],.o 0 []]]]),
 (29,[[.o 0 [],.o 5 [.o 2 [],.o 0 [],.o 2 [],.o 0 []]],[]]),
 (30,[[.o 0 [],.o 5 [.o 2 [],.o 0 [],.o 2 [],.o 0 []]],[]]),
 (31,[[.o 0 [],.o 5 [.o 2 [],.o 0 [],.o 2 [],.o 0 []]],[],[.o 0 [],.o 5 [.o 2 [],.o 0 [],.o 2 [],.o 0 []]],[]]),
 (32,[[.o 0 [],.o 5 [.o 2 [],.o 0 [],.o 2 [],.o 0 []]],[],[.o 0 [],.o 2 [],.o 0 []]]),
 (33,[[.o 0 [],.o 5 [.o 2 [],.o 0 [],.o 2 [],.o 0 []]],[],[.o 0 [],.o 2 [],.o 0 []]]),
 (34,[[.o 0 [],.o 5 [.o 2 [],.o 0 [],.o 2 [],.o 0 []]]]),
 (35,[[.o 0 [],.o 5 [.o 2 [],.o 0 [],.o 2 [],.o 0 []]]]),
 (37,[[.o 3 [.o 0 [],.o 5 [.o 2 [],.o 0 [],.o 0 [],.o 0 []]]],[]]),
 (38,[[.o 0 [],.o 5 [.o 2 [],.o 0 [],.o 2 [],.o 0 []]]]),
 (39,[[.o 5 [.o 2 [],.o 0 [],.o 2 [],.o 0 []]],[]]),
 (40,[[.o 2 [],.o 0 [],.o 2 [],.o 0 []]]),
 (41,[[.o 2 []],[]]),
 (46,[[.o 0 [],.o 5 [.o 2 [],.o 0 [],.o 2 [],.o 0 []]]]),
 (52,[[.o 2 []]]),
 (53,[[],[.o 2 []],[.o 0 [],.o 2 [],.o 0 []]]),
 (55,[[.o 0 [],.o 5 [.o 2 [],.o 0 [],.o 2 [],.o 0 []]],[.o 0 [],.o 5 [.o 2 [],.o 0 [],.o 2 [],.o 0 []]]]),
 (56,[[.o 2 [.o 5 [.o 2 [],.o 0 [],.o 2 [],.o 0 []]]]]),
 (60,[[.o 0 [],.o 2 [],.o 0 []],[.o 0 [],.o 2 [],.o 0 []]]),
 (61,[[.o 4 [.o 0 [],.o 2 [],.o 0 []]],[]]),
 (62,[[.o 0 [],.o 2 [],.o 0 []]]),
 (64,[[.o 0 [],.o 2 [],.o 0 []]]),
 (65,[[.o 0 [],.o 2 [],.o 0 []],[.o 0 [],.o 2 [],.o 0 []],[]]),
 (67,[[.o 0 [],.o 2 [],.o 0 []],[.o 0 [],.o 2 [],.o 0 []]]),
 (68,[[.o 0 [],.o 2 [],.o 0 []]]),
 (69,[[.o 2 []]]),
 (70,[[.o 2 []],[.o 2 []]]),
 (71,[[.o 0 [],.o 2 [],.o 0 []]]),
 (72,[[],[.o 2 []],[]]),
 (73,[[.o 2 []]]),
 (74,[[.o 2 []]]),
 (75,[[.o 2 []],[.o 2 []]]),
 (76,[[.o 0 [],.o 2 [],.o 0 []],[.o 0 [],.o 2 [],.o 0 []]]),
 (77,[[.o 0 [],.o 2 [],.o 0 []],[]]),
 (78,[[.o 0 [],.o 2 [],.o 0 []],[]]),
 (79,[[.o 0 [],.o 2 [],.o 0 []],[.o 0 [],.o 2 [],.o 0 []]]),
 (80,[[.o 0 [],.o 2 [],.o 0 []]]),
 (81,[[.o 0 [],.o 5 [.o 2 [],.o 0 [],.o 2 [],.o 0 []]]]),
 (82,[[.o 0 [],.o 2 [],.o 0 []]]),
 (83,[[.o 0 [],.o 2 [],.o 0 []],[.o 0 [],.o 2 [],.o 0 []],[]]),
 (84,[[.o 5 [.o 2 [],.o 0 [],.o 2 [],.o 0 []]],[.o 2 [],.o 0 [],.o 2 [],.o 0 []]]),
 (85,[[.o 2 []],[]]),
 (87,[[.o 2 []],[.o 2 []]]),
 (88,[[.o 3 [.o 0 [],.o 5 [.o 2 [],.o 0 [],.o 0 [],.o 0 []]]],[]]),
 (89,[[.o 5 [.o 2 [],.o 0 [],.o 2 [],.o 0 []]],[]]),
 (90,[[.o 2 []],[]]),
 (93,[[.o 2 []]]),
 (98,[[],[.o 2 [],.o 0 [],.o 2 [],.o 0 []]]),
 (103,[[.o 5 [.o 2 [],.o 0 [],.o 2 [],.o 0 []]],[.o 2 []],[]]),
 (104,[[.o 2 [],.o 0 [],.o 2 [],.o 0 []],[.o 2 []]]),
 (105,[[],[],[.o 5 [.o 2 [],.o 0 [],.o 2 [],.o 0 []]]]),
 (106,[[.o 0 [],.o 2 [],.o 0 []]]),
 (109,[[.o 0 [],.o 2 [],.o 0 []]]),
 (110,[[.o 0 [],.o 2 [],.o 0 []],[.o 0 [],.o 2 [],.o 0 []]]),
 (111,[[.o 4 [.o 0 [],.o 2 [],.o 0 []]],[]]),
 (112,[[.o 0 [],.o 2 [],.o 0 []]]),
 (113,[[.o 0 [],.o 2 [],.o 0 []]]),
 (114,[[.o 2 []],[]]),
 (115,[[.o 2 []],[.o 2 []]]),
 (116,[[.o 2 []],[.o 2 []]]),
 (117,[[.o 2 []],[.o 2 []]]),
 (118,[[.o 2 []]]),
 (119,[[.o 2 []]]),
 (120,[[.o 2 [.o 2 []]]]),
 (121,[[.o 2 []]]),
 (122,[[.o 2 []],[.o 2 []]]),
 (123,[[.o 2 []]]),
 (124,[[.o 2 []]]),
 (125,[[.o 2 []]]),
 (126,[[.o 2 []],[]]),
 (127,[[.o 2 []]]),
 (128,[[.o 0 [],.o 2 [],.o 0 []],[]]),
 (129,[[.o 0 [],.o 2 [],.o 0 []],[]]),
 (130,[[.o 0 [],.o 2 [],.o 0 []],[],[]]),
 (131,[[.o 0 [],.o 2 [],.o 0 []],[.o 0 [],.o 2 [],.o 0 []]]),
 (132,[[.o 0 [],.o 2 [],.o 0 []],[.o 0 [],.o 2 [],.o 0 []]]),
 (133,[[.o 0 [],.o 2 [],.o 0 []]]),
 (134,[[.o 2 []]]),
 (135,[[.o 0 [],.o 2 [],.o 0 []],[.o 0 [],.o 2 [],.o 0 []]]),
 (136,[[.o 2 []],[]]),
 (138,[[.o 2 []],[.o 2 []]]),
 (140,[[.o 2 []],[]]),
 (143,[[.o 2 []]]),
 (144,[[.o 2 []],[]]),
 (150,[[.o 2 []]]),
 (153,[[.o 5 [.o 2 [],.o 0 [],.o 2 [],.o 0 []]],[]]),
 (154,[[.o 2 []],[]]),
 (155,[[.o 2 []],[.o 2 []]]),
 (156,[[.o 2 []],[.o 2 []]]),
 (158,[[.o 2 [.o 2 []]],[]]),
 (159,[[.o 2 []]]),
 (161,[[.o 2 []],[]]),
 (162,[[.o 0 [],.o 2 [],.o 0 []],[],[]]),
 (163,[[.o 0 [],.o 2 [],.o 0 []],[.o 0 [],.o 2 [],.o 0 []],[]]),
 (164,[[.o 0 [],.o 2 [],.o 0 []],[],[]]),
 (165,[[.o 0 [],.o 2 [],.o 0 []]]),
 (166,[[.o 0 [],.o 2 [],.o 0 []]]),
 (167,[[.o 2 []],[]]),
 (168,[[],[.o 2 []],[]]),
 (169,[[.o 2 []],[.o 2 []]]),
 (170,[[.o 2 []],[.o 2 []]]),
 (171,[[.o 2 []],[.o 2 []]]),
 (172,[[.o 0 [],.o 2 [],.o 0 []],[.o 0 [],.o 2 [],.o 0 []]]),
 (184,[[.o 2 []],[]]),
 (185,[[.o 2 []],[],[],[],[]]),
 (190,[[.o 2 []],[]]),
 (193,[[.o 2 [.o 2 []]],[]]),
 (194,[[],[.o 4 [.o 0 [],.o 2 [],.o 0 []]]]),
 (195,[[],[.o 2 [],.o 0 [],.o 0 []],[],[]]),
 (196,[[.o 0 [],.o 2 [],.o 0 []]]),
 (198,[[],[.o 2 []],[],[],[],[]]),
 (199,[[.o 2 []]]),
 (200,[[.o 2 []],[]]),
 (201,[[.o 2 []],[.o 2 []]]),
 (214,[[.o 2 [],.o 0 [],.o 0 []],[],[]]),
 (215,[[.o 2 []]]),
 (216,[[.o 2 []]]),
 (217,[[.o 2 []],[]]),
 (218,[[.o 2 []],[.o 2 []]]),
 (219,[[.o 2 []],[]]),
 (220,[[.o 2 []],[.o 2 []]]),
 (225,[[.o 2 []],[]]),
 (226,[[.o 2 []],[]]),
 (227,[[],[.o 2 []],[]]),
 (228,[[.o 2 []],[]]),
 (229,[[.o 2 []],[.o 2 []]])]
def mdL:List (Nat × List Nat):=[(103,[3,0,0]),(105,[2,0,0]),(107,[2,0,0]),(152,[0,1])]
def keepL:List Nat:=[12,19]
end Go.Ab
namespace Go.Ab
def ac:List Nat→Nat
 | []=>0
 | x::l=>x+4294967296*ac l
def Lb (m:List Nat):Prop:=∀ x ∈ m,x < 4294967296
def dj:Nat→Nat→List Nat
 | 0,_=>[]
 | k+1,n=>n % 4294967296::dj k (n / 4294967296)
def av (n:Nat):List Nat:=if h:n=0 then [] else n % 4294967296::av (n / 4294967296)
termination_by n
decreasing_by omega
theorem fM:av 0=[]:=by rw [av]; rfl
theorem mj {n:Nat} (h:n ≠ 0):av n=n % 4294967296::av (n / 4294967296):=by rw [av,dif_neg h]
theorem mn {n:Nat}:av n=[]↔n=0:=by
 constructor
 ·intro h
  by_cases hn:n=0
  ·exact hn
  ·rw [mj hn] at h; cases h
 ·rintro rfl; exact fM
theorem bL (n:Nat):ac (av n)=n:=by
 induction n using Nat.strongRecOn with
 | ind n ih =>
  by_cases h:n=0
  ·subst h; rw [fM]; rfl
  ·rw [mj h,ac,ih _ (by omega)]
   omega
theorem ce (n:Nat):Lb (av n):=by
 induction n using Nat.strongRecOn with
 | ind n ih =>
  by_cases h:n=0
  ·subst h; rw [fM]; intro x hx; simp at hx
  ·rw [mj h]
   intro x hx
   rcases List.mem_cons.1 hx with rfl | hx
   ·omega
   ·exact ih _ (by omega) x hx
theorem AY:Lb []:=fun x hx=>by simp at hx
theorem eX {x:Nat} {l:List Nat}:Lb (x::l)↔x < 4294967296∧Lb l:=by
 constructor
 ·intro h; exact ⟨h x (by simp),fun y hy=>h y (by simp [hy])⟩
 ·rintro ⟨h1,h2⟩ y hy
  rcases List.mem_cons.1 hy with rfl | hy
  ·exact h1
  ·exact h2 y hy
theorem nN {l r:List Nat}:Lb (l++r)↔Lb l∧Lb r:=by
 constructor
 ·intro h; exact ⟨fun x hx=>h x (by simp [hx]),fun x hx=>h x (by simp [hx])⟩
 ·rintro ⟨h1,h2⟩ x hx
  rcases List.mem_append.1 hx with hx | hx
  ·exact h1 x hx
  ·exact h2 x hx
theorem qX {l:List Nat} (h:Lb l) (n:Nat):Lb (l.take n):=fun x hx=>h x (List.mem_of_mem_take hx)
theorem tD {l:List Nat} (h:Lb l) (n:Nat):Lb (l.drop n):=fun x hx=>h x (List.mem_of_mem_drop hx)
theorem dQ {l:List Nat} (h:Lb l) (i:Nat):l.getD i 0 < 4294967296:=by
 rw [List.getD_eq_getElem?_getD]
 cases hq:l[i]? with
 | none=>simp
 | some x=>exact h x (List.mem_of_getElem? hq)
theorem fu (l r:List Nat):ac (l++r)=ac l+4294967296 ^ l.length*ac r:=by
 induction l with
 | nil=>simp [ac]
 | cons x l ih =>
  simp only [List.cons_append,ac,ih,List.length_cons,Nat.pow_succ,Nat.mul_add]
  have:4294967296*(4294967296 ^ l.length*ac r)=4294967296 ^ l.length*4294967296*ac r:=by
   rw [Nat.mul_comm (4294967296 ^ l.length) 4294967296,Nat.mul_assoc]
  omega
theorem ju {l:List Nat} (h:Lb l):ac l < 4294967296 ^ l.length:=by
 induction l with
 | nil=>simp [ac]
 | cons x l ih =>
  obtain ⟨h1,h2⟩:=eX.1 h
  have:=ih h2
  simp only [ac,List.length_cons,Nat.pow_succ]
  omega
theorem ct (k n:Nat):(dj k n).length=k:=by
 induction k generalizing n with
 | zero=>rfl
 | succ k ih=>simp [dj,ih]
theorem py (k n:Nat):Lb (dj k n):=by
 induction k generalizing n with
 | zero=>exact AY
 | succ k ih=>exact eX.2 ⟨by omega,ih _⟩
theorem pz (k n:Nat):ac (dj k n)=n % 4294967296 ^ k:=by
 induction k generalizing n with
 | zero=>simp [dj,ac,Nat.mod_one]
 | succ k ih =>
  rw [dj,ac,ih,Nat.pow_succ,Nat.mul_comm (4294967296 ^ k),Nat.mod_mul]
theorem uL {l:List Nat} (h:Lb l):dj l.length (ac l)=l:=by
 induction l with
 | nil=>rfl
 | cons x l ih =>
  obtain ⟨h1,h2⟩:=eX.1 h
  simp only [List.length_cons,dj,ac]
  rw [show (x+4294967296*ac l) % 4294967296=x from by omega,show (x+4294967296*ac l) / 4294967296=ac l from by omega,ih h2]
theorem Dg (n:Nat):ac (List.replicate n 0)=0:=by
 induction n with
 | zero=>rfl
 | succ n ih=>simp [List.replicate_succ,ac,ih]
def iJ (m:List Nat):Nat→Nat
 | 0=>0
 | n+1=>if m.getD n 0=0 then iJ m n else n+1
theorem tE (m:List Nat):∀ n,iJ m n≤n
 | 0=>Nat.le_refl _
 | n+1=>by
  unfold iJ
  have:=tE m n
  split <;> omega
theorem II (m:List Nat):∀ n,iJ m n=0∨m.getD (iJ m n - 1) 0 ≠ 0
 | 0=>.inl rfl
 | n+1=>by
  unfold iJ
  split
  ·exact II m n
  ·rename_i h
   exact .inr h
theorem F7 (m:List Nat):∀ n i,iJ m n≤i→i < n→m.getD i 0=0
 | 0,i,_,h=>by omega
 | n+1,i,h1,h2=>by
  unfold iJ at h1
  split at h1
  ·rename_i h
   by_cases e:i=n
   ·rw [e]; exact h
   ·exact F7 m n i h1 (by omega)
  ·omega
def uM (m:List Nat):Prop:=m=[]∨m.getD (m.length - 1) 0 ≠ 0
theorem pA (x:Nat) (l:List Nat) (i:Nat):(x::l).getD (i+1) 0=l.getD i 0:=by simp [List.getD_eq_getElem?_getD]
theorem AZ {x:Nat} {l:List Nat} (h:uM (x::l)):uM l:=by
 rcases h with h | h
 ·cases h
 ·cases l with
  | nil=>exact .inl rfl
  | cons y l =>
   refine .inr ?_
   simp only [List.length_cons,Nat.add_sub_cancel] at h ⊢
   rwa [pA] at h
theorem LN {l:List Nat} (h:uM l) (hne:l ≠ []):ac l ≠ 0:=by
 induction l with
 | nil=>exact absurd rfl hne
 | cons x l ih =>
  cases l with
  | nil =>
   rcases h with h | h
   ·cases h
   ·simp at h
    simp [ac]
    exact h
  | cons y l =>
   have:=ih (AZ h) (by simp)
   rw [ac]
   omega
theorem IJ {l:List Nat} (h1:Lb l) (h2:uM l):av (ac l)=l:=by
 induction l with
 | nil=>exact fM
 | cons x l ih =>
  obtain ⟨h3,h4⟩:=eX.1 h1
  rw [mj (LN h2 (by simp)),ac,show (x+4294967296*ac l) % 4294967296=x from by omega,show (x+4294967296*ac l) / 4294967296=ac l from by omega,ih h4 (AZ h2)]
theorem LO (n:Nat):uM (av n):=by
 induction n using Nat.strongRecOn with
 | ind n ih =>
  by_cases h:n=0
  ·subst h; rw [fM]; exact .inl rfl
  ·rw [mj h]
   refine .inr ?_
   rcases ih (n / 4294967296) (by omega) with h2 | h2
   ·have h3:=mn.1 h2
    rw [h2]
    simp
    omega
   ·cases hq:av (n / 4294967296) with
    | nil =>
     have h3:=mn.1 hq
     simp
     omega
    | cons y l =>
     rw [hq] at h2
     simp only [List.length_cons,Nat.add_sub_cancel] at h2 ⊢
     rw [pA]
     exact h2
theorem F8 (m:List Nat):ac (m.take (iJ m m.length))=ac m:=by
 have h:m=m.take (iJ m m.length)++m.drop (iJ m m.length):=(List.take_append_drop _ _).symm
 have hz:m.drop (iJ m m.length)=List.replicate (m.length - iJ m m.length) 0:=by
  rw [List.eq_replicate_iff]
  refine ⟨by simp,fun x hx=>?_⟩
  obtain ⟨i,hi⟩:=List.getElem?_of_mem hx
  rw [List.getElem?_drop] at hi
  have hl:=(List.getElem?_eq_some_iff.1 hi).1
  have:=F7 m m.length (iJ m m.length+i) (by omega) hl
  rw [List.getD_eq_getElem?_getD,hi] at this
  exact this
 conv=>rhs; rw [h]
 rw [fu,hz,Dg]
 simp
theorem B3 (m:List Nat):uM (m.take (iJ m m.length)):=by
 have hl:=tE m m.length
 rcases II m m.length with h | h
 ·rw [h]; exact .inl rfl
 ·by_cases h0:iJ m m.length=0
  ·rw [h0]; exact .inl rfl
  ·refine .inr ?_
   rw [List.length_take,Nat.min_eq_left hl,List.getD_eq_getElem?_getD,List.getElem?_take,if_pos (by omega),← List.getD_eq_getElem?_getD]
   exact h
theorem F9 {m:List Nat} (h:Lb m):m.take (iJ m m.length)=av (ac m):=by
 rw [← IJ (qX h _) (B3 m),F8]
theorem nc {n k:Nat} (h:n < 4294967296 ^ k):(av n).length≤k:=by
 induction k generalizing n with
 | zero =>
  simp at h
  subst h
  rw [fM]
  simp
 | succ k ih =>
  by_cases h0:n=0
  ·subst h0; rw [fM]; simp
  ·rw [mj h0,List.length_cons]
   have:=ih (n:=n / 4294967296) (by
    rw [Nat.pow_succ] at h
    exact Nat.div_lt_of_lt_mul (by rw [Nat.mul_comm]; exact h))
   omega
theorem il (n:Nat):n < 4294967296 ^ (av n).length:=by
 have:=ju (ce n)
 rwa [bL] at this
theorem LP {n:Nat} (h:n ≠ 0):4294967296 ^ ((av n).length - 1)≤n:=by
 induction n using Nat.strongRecOn with
 | ind n ih =>
  rw [mj h,List.length_cons,Nat.add_sub_cancel]
  by_cases h0:n / 4294967296=0
  ·rw [h0,fM]; simp; omega
  ·have h1:=ih _ (by omega) h0
   have h2:(av (n / 4294967296)).length ≠ 0:=by
    intro e
    exact h0 (mn.1 (List.length_eq_zero_iff.1 e))
   obtain ⟨k,hk⟩:∃ k,(av (n / 4294967296)).length=k+1:=⟨_,(Nat.succ_pred_eq_of_pos (by omega)).symm⟩
   rw [hk] at h1 ⊢
   simp only [Nat.add_sub_cancel] at h1
   rw [Nat.pow_succ]
   omega
def tz (n:Nat):Nat:=if h:n=0 then 0 else if n % 2=1 then 0 else tz (n / 2)+1
termination_by n
decreasing_by omega
theorem wV {n:Nat} (h:n % 2=1):tz n=0:=by
 rw [tz,dif_neg (by omega),if_pos h]
theorem Ga {n:Nat} (h:n ≠ 0):tz (2*n)=tz n+1:=by
 rw [tz,dif_neg (by omega),if_neg (by omega),Nat.mul_div_cancel_left n (by decide)]
theorem A3 {n:Nat} (k:Nat) (h:n ≠ 0):tz (2 ^ k*n)=k+tz n:=by
 induction k with
 | zero=>rw [Nat.pow_zero,Nat.one_mul,Nat.zero_add]
 | succ k ih =>
  rw [Nat.pow_succ,Nat.mul_comm (2 ^ k) 2,Nat.mul_assoc,Ga (Nat.mul_ne_zero (Nat.ne_of_gt (Nat.two_pow_pos k)) h),ih]
  omega
theorem qY {n:Nat} (h:n ≠ 0):n=2 ^ tz n*(n / 2 ^ tz n)∧n / 2 ^ tz n % 2=1:=by
 induction n using Nat.strongRecOn with
 | ind n ih =>
  by_cases h1:n % 2=1
  ·rw [wV h1,Nat.pow_zero,Nat.div_one,Nat.one_mul]
   exact ⟨rfl,h1⟩
  ·have hn:n=2*(n / 2):=by omega
   have h2:n / 2 ≠ 0:=by omega
   obtain ⟨e1,e2⟩:=ih (n / 2) (by omega) h2
   have e3:tz n=tz (n / 2)+1:=by
    conv=>lhs; rw [hn]
    exact Ga h2
   have e4:n / 2 ^ (tz (n / 2)+1)=n / 2 / 2 ^ tz (n / 2):=by rw [Nat.pow_succ,Nat.mul_comm,Nat.div_div_eq_div_mul]
   rw [e3,e4]
   refine ⟨?_,e2⟩
   rw [Nat.pow_succ,Nat.mul_comm (2 ^ tz (n / 2)) 2,Nat.mul_assoc,← e1]
   exact hn
theorem R8 {x k:Nat} (y:Nat) (h:x ≠ 0) (hx:x < 2 ^ k):tz (x+2 ^ k*y)=tz x:=by
 obtain ⟨e1,e2⟩:=qY h
 generalize x / 2 ^ tz x=q at e1 e2
 have hle:2 ^ tz x≤x:=by
  conv=>rhs; rw [e1]
  exact Nat.le_mul_of_pos_right _ (by omega)
 have hk:tz x < k:=(Nat.pow_lt_pow_iff_right (by decide:1 < 2)).1 (Nat.lt_of_le_of_lt hle hx)
 generalize hz:2 ^ (k - tz x - 1)*y=z
 have e3:x+2 ^ k*y=2 ^ tz x*(q+2*z):=by
  have e4:2 ^ k=2 ^ tz x*(2*2 ^ (k - tz x - 1)):=by
   rw [← Nat.pow_succ',← Nat.pow_add]
   congr 1
   omega
  rw [Nat.mul_add,← e1,e4,← hz]
  simp only [Nat.mul_assoc]
 have e5:(q+2*z) % 2=1:=by omega
 rw [e3,A3 _ (by omega),wV e5,Nat.add_zero]
theorem Pe {x k:Nat} (h:x ≠ 0) (hx:x < 2 ^ k):tz x < k:=by
 obtain ⟨e1,e2⟩:=qY h
 generalize x / 2 ^ tz x=q at e1 e2
 have hle:2 ^ tz x≤x:=by
  conv=>rhs; rw [e1]
  exact Nat.le_mul_of_pos_right _ (by omega)
 exact (Nat.pow_lt_pow_iff_right (by decide:1 < 2)).1 (Nat.lt_of_le_of_lt hle hx)
def Dh:Nat→Nat→Nat
 | 0,_=>0
 | k+1,n=>if n % 2=1 then 0 else Dh k (n / 2)+1
theorem R9:∀ (k x:Nat),x ≠ 0→x < 2 ^ k→Dh k x=tz x:=by
 intro k
 induction k with
 | zero=>intro x h0 h1; omega
 | succ k ih =>
  intro x h0 h1
  unfold Dh
  by_cases h:x % 2=1
  ·rw [if_pos h,wV h]
  ·rw [if_neg h,ih (x / 2) (by omega) (by rw [Nat.pow_succ] at h1; omega)]
   have:=Ga (n:=x / 2) (by omega)
   rw [show 2*(x / 2)=x by omega] at this
   exact this.symm
def Pf (zas:List AV) (hs:List Ob):Option (AV × List Ob):=match zas with
 | [.v (.int .u32 n)]=>if 0 < n∧n < 4294967296∧hs=[] then some (.v (.int .i64 (Dh 32 n.toNat:Nat)),[]) else none
 | _=>none
def dtS (n:Bool) (e:Int):List UInt8:=(if n then [45] else [])++[49]++[112]++[if e=0 then 48 else 49]
def Sa (zas:List AV) (hs:List Ob):Option (AV × List Ob):=match zas with
 | [.agg [.v (.bool n),.sl 1 [[.v (.int .u32 m)]],.v (.int .i64 e)]]=>if m=1∧(e=0∨e=1)∧hs=[] then some (.tup [S ⟨(dtS n e).toArray⟩,I 0],[]) else none
 | _=>none
def IK (k:Nat) (zas:List AV) (hs:List Ob):Option (AV × List Ob):=match zas,hs with
 | [.sl k0 (_::_),.rsl 1000 none k1 _ _],[.ar k2 rows]=>if k0=k∧k1=k∧k2=k then some (B false,[.ar k2 rows]) else none
 | _,_=>none
def LQ (zas:List AV) (hs:List Ob):Option (AV × List Ob):=match zas,hs with
 | [.sl 1 []],[]=>some (.sl 1 [],[])
 | [.sl 1 (r::rs)],[]=>if (rs.length+1)*8≤140737488355328 then some (.osl 1 (r::rs),[]) else none
 | _,_=>none
def Gb (k bytes:Nat) (zas:List AV) (hs:List Ob):Option (AV × List Ob):=match zas,hs with
 | [.emp,.v (.int .i64 0),.sl k0 [r]],[]=>if k0=k then some (.osl k [r],[]) else none
 | [.rsl 1000 none k1 0 n,.v (.int .i64 i),.sl k0 [r]],[.ar k2 rows] =>
  if k0=k∧k1=k∧k2=k∧n=rows.length∧0≤i∧i≤n∧(n+1)*bytes≤140737488355328 then some (.osl k (rows.take i.toNat++r::rows.drop i.toNat),[.dead]) else none
 | _,_=>none
def ER:List (Nat × (List AV→List Ob→Option (AV × List Ob))):=[(F.bits_TrailingZeros32,Pf),(F.slices_overlaps_api_Term_,IK 4)]
def Sb:List (Nat × (List AV→List Ob→Option (AV × List Ob))):=(F.dyadic_Text,Sa)::(F.slices_Clone_int_int_,LQ)::(F.slices_Insert_api_Term_api_Term_,Gb 4 64)::ER
end Go.Ab
