/-
  A law of ranges holds at every input that the statement speaks of, under the conditions that its card names. Part D1.
-/
import Derived.Test.YtfdhicohflnjnaaGreatDoorC1
namespace Go.Ab
open Go
def bU:Cmd:=.seq (.ops [1,2,3] [bx 3 3 (.t 0),co 6 (.mv (.c (B false)))]) (.seq (.seq (.ops [1,2,3,11] [ca 10 F.l24_awake [],co 11 (.un .not (.t 10))]) (.cond (.t 11) (.seq (.ops [6] [co 6 (.mv (.c (B false)))]) (.ret)) (.skip))) (.seq (.seq (.ops [1,2,3,32] [la 12 3 3,ca 13 F.l24_long [.t 12],cm 14 13,⟨(some 15),(some (14,false)),.load 3 true (.t 3)⟩,⟨(some 16),(some (14,false)),.call (.c (.fn F.r02_Valid [] [])) [.t 15]⟩,cg 17 14 false (.un .not (.t 16)),co 18 (.pick (.t 14) (.c (B true)) (.t 17)),cm 19 18,cg 20 19 false (.mv (.t 1)),cg 21 19 false (.len false (.t 20)),cg 22 19 false (.bin .gtr (.t 21) (.c (I 4))),co 23 (.pick (.t 19) (.c (B true)) (.t 22)),cm 24 23,cg 25 24 false (.mv (.t 1)),⟨(some 26),(some (24,false)),.call (.c (.fn F.l24_near [] [])) [.t 25]⟩,cg 27 24 false (.un .not (.t 26)),co 28 (.pick (.t 24) (.c (B true)) (.t 27)),cm 29 28,cg 30 29 false (.mv (.t 2)),cg 31 29 false (.bin .gtr (.t 30) (.c (I 200))),co 32 (.pick (.t 29) (.c (B true)) (.t 31))]) (.cond (.t 32) (.seq (.ops [6] [co 6 (.mv (.c (B true)))]) (.ret)) (.skip))) (.seq (.ops [1,2,3,7,8] [cm 34 1,co 35 (.len false (.t 34)),la 36 3 3,ca 37 F.poly_Const [.t 35,.t 36],cm 33 37,co 38 (.ext 0 (.t 33)),co 39 (.ext 1 (.t 33)),al 7 [I 0,.emp],sr 2 (.t 7) (.t 38),cm 8 39]) (.seq (.seq (.ops [1,2,3,7,41] [cm 40 8,co 41 (.bin .neq (.t 40) (.c (I 0)))]) (.cond (.t 41) (.seq (.ops [6] [co 6 (.mv (.c (B false)))]) (.ret)) (.skip))) (.seq (.ops [1,2,7,9] [la 42 3 3,ca 43 F.interval_Point [.t 42],cm 44 2,ca 45 F.interval_Round [.t 43,.t 44],al 9 [B false,.emp,I 0,B false,.emp,I 0,B false],sr 7 (.t 9) (.t 45)]) (.seq (.seq (.ops [1,2,7,9,47] [cm 46 1,ca 47 F.slices_ContainsFunc_api_Interval_api_Interval_ [.t 46,.c (.fn F.l24_BoundConstants_1 [] [])]]) (.cond (.t 47) (.ops [1,2,7,9] [ca 48 F.interval_Whole [],sr 7 (.t 9) (.t 48)]) (.skip))) (.seq (.seq (.dops [1,2,7,9,60] [la 49 2 7,ca 50 F.r23_Valid [.t 49],co 51 (.un .not (.t 50)),cm 52 51,⟨(some 53),(some (52,false)),.load 2 true (.t 7)⟩,cg 54 52 false (.mv (.t 1)),cg 55 52 false (.mv (.t 2)),⟨(some 56),(some (52,false)),.call (.c (.fn F.bound_Naive [] [])) [.t 53,.t 54,.t 55]⟩,⟨(some 57),(some (52,false)),.load 7 true (.t 9)⟩,⟨(some 58),(some (52,false)),.call (.c (.fn F.l24_equal [] [])) [.t 56,.t 57]⟩,cg 59 52 false (.un .not (.t 58)),co 60 (.pick (.t 52) (.c (B true)) (.t 59))] [(7,8)]) (.cond (.t 60) (.seq (.ops [6] [co 6 (.mv (.c (B false)))]) (.ret)) (.skip))) (.seq (.dops [6] [la 61 2 7,cm 62 1,cm 63 2,ca 64 F.bound_Best [.t 61,.t 62,.t 63],la 65 7 9,ca 66 F.r05_Inside [.t 64,.t 65],cm 67 66,cg 68 67 false (.fadr 6 (.t 9)),⟨(some 69),(some (67,false)),.load 1 false (.t 68)⟩,co 70 (.pick (.t 67) (.c (B true)) (.t 69)),cm 6 70] [(3,4)]) (.ret)))))))))
def bJ:FD:=⟨3,[[]],[.t 6],bU⟩
def Tp:Cmd:=.seq (.ops [] [co 0 (.mv (.c (B false)))]) (.seq (.ops [1] [⟨(some 5),none,.buildSl 1 [I 0] 1 [(0,.c (I 1))]⟩,ca 6 F.l24_d [.c (I (-1))],co 7 (.build [.emp,B false,.emp,I 0] [(0,1,.t 5),(1,3,.t 6)]),⟨(some 8),none,.buildSl 1 [I 0] 1 [(0,.c (I 2))]⟩,ca 9 F.l24_d [.c (I 1)],co 10 (.build [.emp,B false,.emp,I 0] [(0,1,.t 8),(1,3,.t 9)]),⟨(some 11),none,.buildSl 4 [.emp,B false,.emp,I 0] 2 [(0,.t 7),(1,.t 10)]⟩,co 12 (.build [I 0,.emp] [(0,1,.c (I 1)),(1,1,.t 11)]),al 1 [I 0,.emp],sr 2 (.t 1) (.t 12)]) (.seq (.ops [1,2] [ca 13 F.l24_d [.c (I 1)],co 14 (.build [B false,.emp,I 0,B false,.emp,I 0,B false] [(3,3,.t 13)]),⟨(some 15),none,.buildSl 7 [B false,.emp,I 0,B false,.emp,I 0,B false] 1 [(0,.t 14)]⟩,cm 2 15]) (.seq (.frz [1,2] (.dops [3,4] [la 16 2 1,cm 17 2,ca 18 F.bound_Naive [.t 16,.t 17,.c (I 60)],la 19 2 1,cm 20 2,ca 21 F.bound_Best [.t 19,.t 20,.c (I 60)],al 3 [B false,.emp,I 0,B false,.emp,I 0,B false],al 4 [B false,.emp,I 0,B false,.emp,I 0,B false],sr 7 (.t 3) (.t 18),sr 7 (.t 4) (.t 21)] [(2,3),(0,6),(2,6),(3,6),(5,6),(0,7),(2,7),(3,7),(5,7),(6,7)])) (.seq (.dops [0] [la 22 7 3,ca 23 F.l24_d [.c (I (-1))],ca 24 F.l24_d [.c (I 1)],co 25 (.build [B false,.emp,I 0,B false,.emp,I 0,B false] [(0,3,.t 23),(3,3,.t 24)]),ca 26 F.r05_Equal [.t 22,.t 25],cm 27 26,cg 28 27 true (.fadr 6 (.t 4)),⟨(some 29),(some (27,true)),.load 1 false (.t 28)⟩,cg 30 27 true (.un .not (.t 29)),co 31 (.pick (.t 27) (.t 30) (.c (B false))),cm 32 31,⟨(some 33),(some (32,true)),.load 7 true (.t 4)⟩,⟨(some 34),(some (32,true)),.load 7 true (.t 3)⟩,⟨(some 35),(some (32,true)),.call (.c (.fn F.r05_Inside [] [])) [.t 33,.t 34]⟩,co 36 (.pick (.t 32) (.t 35) (.c (B false))),cm 37 36,⟨(some 38),(some (37,true)),.buildSl 1 [U 0] 1 [(0,.c (U 1))]⟩,cg 39 37 true (.build [B false,.emp,I 0] [(0,1,.c (B true)),(1,1,.t 38),(2,1,.c (I (-2)))]),cg 40 37 true (.build [B false,.emp,I 0,B false,.emp,I 0,B false] [(0,3,.t 39)]),⟨(some 41),(some (37,true)),.load 7 true (.t 4)⟩,⟨(some 42),(some (37,true)),.call (.c (.fn F.r05_Inside [] [])) [.t 40,.t 41]⟩,co 43 (.pick (.t 37) (.t 42) (.c (B false))),cm 0 43] [(0,1),(0,2),(16,19)]) (.ret)))))
def PM:FD:=⟨0,[[]],[.t 0],Tp⟩
def zK:Cmd:=.seq (.ops [0] [co 2 (.mv (.c (B false)))]) (.seq (.ops [2] [cm 3 0,co 4 (.len false (.t 3)),co 5 (.bin .leq (.t 4) (.c (I 8))),cm 6 5,cg 7 6 true (.mv (.t 0)),⟨(some 8),(some (6,true)),.call (.c (.fn F.slices_ContainsFunc_api_Interval_api_Interval_ [] [])) [.t 7,.c (.fn F.l24_near_1 [] [])]⟩,cg 9 6 true (.un .not (.t 8)),co 10 (.pick (.t 6) (.t 9) (.c (B false))),cm 2 10]) (.ret))
def s6:FD:=⟨1,[[]],[.t 2],zK⟩
def eZ:Cmd:=.seq (.ops [1,2,6,7,10,22,23,24,32,33,34,35] [b2 35 .lss 34 33]) (.seq (.cond (.t 35) (.skip) (.exit 2)) (.seq (.block 3 [1,2,6,7,10,22,23,24,32,33,34] (.seq (.ops [1,2,6,7,10,11,12,22,23,24,32,33,34] [cm 36 34,co 37 (.iadrS 1 (.t 32) (.t 34)),ld 38 1 37,cm 11 36,cm 12 38]) (.seq (.ops [1,2,6,7,10,11,12,22,23,24,32,33,34,40] [cm 39 12,co 40 (.bin .gtr (.t 39) (.c (I 0)))]) (.cond (.t 40) (.dops [1,2,6,7,10,22,23,24,32,33,34] [la 41 7 10,cm 42 1,cm 43 11,co 44 (.iadrS 7 (.t 42) (.t 43)),la 45 7 44,cm 46 12,cm 47 2,ca 48 F.bound_power [.t 45,.t 46,.t 47],cm 49 2,ca 50 F.interval_Mul [.t 41,.t 48,.t 49],sr 7 (.t 10) (.t 50)] [(0,7)]) (.skip))))) (.ops [1,2,6,7,10,22,23,24,32,33,34] [co 51 (.bin .add (.t 34) (.c (I 1))),cm 34 51])))
def gr:Cmd:=.seq (.ops [1,2,6,7,22,23,24,25] [b2 25 .lss 24 23]) (.seq (.cond (.t 25) (.skip) (.exit 0)) (.seq (.block 1 [1,2,6,7,22,23,24] (.seq (.ops [1,2,6,7,9,22,23,24] [co 26 (.iadrS 4 (.t 22) (.t 24)),la 27 4 26,al 9 [.emp,B false,.emp,I 0],sr 4 (.t 9) (.t 27)]) (.seq (.ops [1,2,6,7,9,10,22,23,24] [fa 28 1 9,la 29 3 28,ca 30 F.interval_Point [.t 29],al 10 [B false,.emp,I 0,B false,.emp,I 0,B false],sr 7 (.t 10) (.t 30)]) (.seq (.seq (.ops [1,2,6,7,10,22,23,24,32,33,34] [fa 31 0 9,ld 32 1 31,co 33 (.len false (.t 32)),co 34 (.mv (.c (I 0)))]) (.block 2 [1,2,6,7,10,22,23,24] (.loop [1,2,6,7,10,22,23,24,32,33,34] [3,6,7,9,10] eZ))) (.ops [1,2,6,7,22,23,24] [la 52 7 7,la 53 7 10,cm 54 2,ca 55 F.interval_Add [.t 52,.t 53,.t 54],sr 7 (.t 7) (.t 55)]))))) (.ops [1,2,6,7,22,23,24] [co 56 (.bin .add (.t 24) (.c (I 1))),cm 24 56])))
def tX:Cmd:=.seq (.ops [1,2,3,6] [bx 3 2 (.t 0),al 6 [B false,.emp,I 0,B false,.emp,I 0,B false]]) (.seq (.seq (.ops [1,2,3,6,17] [la 13 2 3,cm 14 1,cm 15 2,ca 16 F.bound_fits [.t 13,.t 14,.t 15],co 17 (.un .not (.t 16))]) (.cond (.t 17) (.seq (.ops [6] [ca 18 F.bound_whole [],sr 7 (.t 6) (.t 18)]) (.ret)) (.skip))) (.seq (.ops [1,2,3,6,7] [co 19 (.build [B false,.emp,I 0] []),ca 20 F.interval_Point [.t 19],al 7 [B false,.emp,I 0,B false,.emp,I 0,B false],sr 7 (.t 7) (.t 20)]) (.seq (.seq (.ops [1,2,6,7,22,23,24] [fa 21 1 3,ld 22 1 21,co 23 (.len false (.t 22)),co 24 (.mv (.c (I 0)))]) (.block 0 [6,7] (.loop [1,2,6,7,22,23,24] [3,6,7] gr))) (.seq (.ops [6] [la 57 7 7,sr 7 (.t 6) (.t 57)]) (.ret)))))
def nY:FD:=⟨3,[[.o 0 [],.o 2 [],.o 0 [],.o 0 [],.o 2 [],.o 0 [],.o 0 []]],[.cell 6 7 true],tX⟩
def qQ:Cmd:=.seq (.ops [6,12,80,81,82,83] [b2 83 .lss 82 81]) (.seq (.cond (.t 83) (.skip) (.exit 2)) (.seq (.block 3 [6,12,80,81,82] (.seq (.ops [6,12,14,80,81,82] [co 84 (.iadrS 7 (.t 80) (.t 82)),la 85 7 84,al 14 [B false,.emp,I 0,B false,.emp,I 0,B false],sr 7 (.t 14) (.t 85)]) (.ops [6,12,80,81,82] [la 86 7 12,la 87 7 14,ca 88 F.interval_Hull [.t 86,.t 87],sr 7 (.t 12) (.t 88)]))) (.ops [6,12,80,81,82] [co 89 (.bin .add (.t 82) (.c (I 1))),cm 82 89])))
def fJ:Cmd:=.seq (.ops [1,6,9,56,57,58] [b2 58 .lss 57 56]) (.seq (.cond (.t 58) (.skip) (.exit 0)) (.seq (.block 1 [1,6,9,56,57] (.seq (.ops [1,6,9,11,56,57] [cm 59 57,cm 11 59]) (.seq (.ops [1,6,9,11,56,57] [cm 60 9,cm 61 11,cm 62 1,cm 63 11,co 64 (.iadrS 7 (.t 62) (.t 63)),la 65 7 64,ca 66 F.bound_grid_unit [.t 60,.t 61,.t 65]]) (.ops [1,6,9,56,57] [cm 67 9,cm 68 11,ca 69 F.bound_grid_bernstein [.t 67,.t 68]])))) (.ops [1,6,9,56,57] [co 70 (.bin .add (.t 57) (.c (I 1))),cm 57 70])))
def oV:Cmd:=.seq (.ops [1,2,3,6] [bx 3 2 (.t 0),al 6 [B false,.emp,I 0,B false,.emp,I 0,B false]]) (.seq (.seq (.ops [1,2,3,6,19] [la 15 2 3,cm 16 1,cm 17 2,ca 18 F.bound_fits [.t 15,.t 16,.t 17],co 19 (.un .not (.t 18))]) (.cond (.t 19) (.seq (.ops [6] [ca 20 F.bound_whole [],sr 7 (.t 6) (.t 20)]) (.ret)) (.skip))) (.seq (.seq (.ops [1,2,3,6,7,8] [la 22 2 3,ca 23 F.bound_Linear [.t 22],cm 21 23,co 24 (.ext 0 (.t 21)),co 25 (.ext 1 (.t 21)),cm 7 24,cm 8 25]) (.seq (.ops [1,2,3,6,7,31] [cm 26 8,cm 27 26,cg 28 27 true (.fadr 0 (.t 3)),⟨(some 29),(some (27,true)),.load 1 false (.t 28)⟩,cg 30 27 true (.bin .eql (.t 29) (.c (I 1))),co 31 (.pick (.t 27) (.t 30) (.c (B false)))]) (.cond (.t 31) (.seq (.dops [6] [cm 32 7,co 33 (.iadrS 3 (.t 32) (.c (I 0))),la 34 3 33,cm 35 7,co 36 (.iadrS 3 (.t 35) (.c (I 1))),la 37 3 36,cm 38 1,co 39 (.iadrS 7 (.t 38) (.c (I 0))),la 40 7 39,cm 41 2,ca 42 F.bound_line [.t 34,.t 37,.t 40,.t 41],sr 7 (.t 6) (.t 42)] []) (.ret)) (.skip)))) (.seq (.ops [1,6,9,10] [la 44 2 3,cm 45 2,ca 46 F.bound_gridOf [.t 44,.t 45],cm 43 46,co 47 (.ext 0 (.t 43)),co 48 (.ext 1 (.t 43)),cm 9 47,cm 10 48]) (.seq (.seq (.ops [1,6,9,50] [cm 49 10,co 50 (.un .not (.t 49))]) (.cond (.t 50) (.seq (.ops [6] [ca 51 F.bound_whole [],sr 7 (.t 6) (.t 51)]) (.ret)) (.skip))) (.seq (.seq (.ops [1,6,9,56,57] [cm 52 9,nk 53 52,fa 54 0 53,ld 55 1 54,co 56 (.len false (.t 55)),co 57 (.mv (.c (I 0)))]) (.block 0 [6,9] (.loop [1,6,9,56,57] [6,2368] fJ))) (.seq (.ops [6,9,12] [cm 71 9,nk 72 71,fa 73 1 72,ld 74 1 73,co 75 (.iadrS 7 (.t 74) (.c (I 0))),la 76 7 75,al 12 [B false,.emp,I 0,B false,.emp,I 0,B false],sr 7 (.t 12) (.t 76)]) (.seq (.seq (.ops [6,12,80,81,82] [cm 77 9,nk 78 77,fa 79 1 78,ld 80 1 79,co 81 (.len false (.t 80)),co 82 (.mv (.c (I 0)))]) (.block 2 [6,12] (.loop [6,12,80,81,82] [6,12,2368] qQ))) (.seq (.ops [6] [la 90 7 12,sr 7 (.t 6) (.t 90)]) (.ret)))))))))
def jR:FD:=⟨3,[[.o 0 [],.o 2 [],.o 0 [],.o 0 [],.o 2 [],.o 0 [],.o 0 []]],[.cell 6 7 true],oV⟩
def qR:Cmd:=.seq (.ops [1,2,3,6] [bx 3 2 (.t 0),al 6 [B false,.emp,I 0,B false,.emp,I 0,B false]]) (.seq (.seq (.ops [1,2,3,6,13] [la 9 2 3,cm 10 1,cm 11 2,ca 12 F.bound_fits [.t 9,.t 10,.t 11],co 13 (.un .not (.t 12))]) (.cond (.t 13) (.seq (.ops [6] [ca 14 F.bound_whole [],sr 7 (.t 6) (.t 14)]) (.ret)) (.skip))) (.seq (.dops [6,7,8] [la 16 2 3,cm 17 1,cm 18 2,ca 19 F.bound_Naive [.t 16,.t 17,.t 18],la 20 2 3,cm 21 1,cm 22 2,ca 23 F.bound_Bernstein [.t 20,.t 21,.t 22],ca 24 F.interval_Meet [.t 19,.t 23],cm 15 24,co 25 (.ext 0 (.t 15)),co 26 (.ext 1 (.t 15)),al 7 [B false,.emp,I 0,B false,.emp,I 0,B false],sr 7 (.t 7) (.t 25),cm 8 26] [(3,4),(0,12),(3,12),(4,12),(7,12),(8,12)]) (.seq (.seq (.ops [6,7,28] [cm 27 8,co 28 (.un .not (.t 27))]) (.cond (.t 28) (.seq (.ops [6] [ca 29 F.bound_whole [],sr 7 (.t 6) (.t 29)]) (.ret)) (.skip))) (.seq (.ops [6] [la 30 7 7,sr 7 (.t 6) (.t 30)]) (.ret)))))
def l9:FD:=⟨3,[[.o 0 [],.o 2 [],.o 0 [],.o 0 [],.o 2 [],.o 0 [],.o 0 []]],[.cell 6 7 true],qR⟩
def mB:Cmd:=.seq (.ops [1] [bx 1 7 (.t 0),co 2 (.mv (.c (B false)))]) (.seq (.seq (.ops [1,4] [fa 3 6 1,ld 4 1 3]) (.cond (.t 4) (.seq (.ops [2] [fa 5 0 1,la 6 3 5,ca 7 F.r05_zero [.t 6],cm 8 7,cg 9 8 true (.fadr 3 (.t 1)),⟨(some 10),(some (8,true)),.load 3 true (.t 9)⟩,⟨(some 11),(some (8,true)),.call (.c (.fn F.r05_zero [] [])) [.t 10]⟩,co 12 (.pick (.t 8) (.t 11) (.c (B false))),cm 2 12]) (.ret)) (.skip))) (.seq (.ops [2] [fa 13 0 1,la 14 3 13,ca 15 F.r02_Valid [.t 14],cm 16 15,cg 17 16 true (.fadr 3 (.t 1)),⟨(some 18),(some (16,true)),.load 3 true (.t 17)⟩,⟨(some 19),(some (16,true)),.call (.c (.fn F.r02_Valid [] [])) [.t 18]⟩,co 20 (.pick (.t 16) (.t 19) (.c (B false))),cm 21 20,cg 22 21 true (.fadr 0 (.t 1)),⟨(some 23),(some (21,true)),.load 3 true (.t 22)⟩,cg 24 21 true (.fadr 3 (.t 1)),⟨(some 25),(some (21,true)),.load 3 true (.t 24)⟩,⟨(some 26),(some (21,true)),.call (.c (.fn F.r02_Cmp [] [])) [.t 23,.t 25]⟩,cg 27 21 true (.bin .leq (.t 26) (.c (I 0))),co 28 (.pick (.t 21) (.t 27) (.c (B false))),cm 2 28]) (.ret)))
def ja:FD:=⟨1,[[]],[.t 2],mB⟩
def xN:Cmd:=.seq (.ops [2,3] [bx 2 7 (.t 0),bx 3 7 (.t 1),co 4 (.mv (.c (B false)))]) (.seq (.ops [4] [fa 5 6 2,ld 6 1 5,cm 7 6,cg 8 7 true (.fadr 6 (.t 3)),⟨(some 9),(some (7,true)),.load 1 false (.t 8)⟩,co 10 (.pick (.t 7) (.t 9) (.c (B false))),cm 11 10,⟨(some 12),(some (11,false)),.load 7 true (.t 2)⟩,⟨(some 13),(some (11,false)),.load 7 true (.t 3)⟩,⟨(some 14),(some (11,false)),.call (.c (.fn F.r05_Equal [] [])) [.t 12,.t 13]⟩,co 15 (.pick (.t 11) (.c (B true)) (.t 14)),cm 4 15]) (.ret))
def qS:FD:=⟨2,[[]],[.t 4],xN⟩
def vZ:Cmd:=.seq (.ops [1,2] [bx 1 3 (.t 0),al 2 [B false,.emp,I 0,B false,.emp,I 0,B false]]) (.seq (.seq (.ops [1,2,5] [la 3 3 1,ca 4 F.dyadic_Valid [.t 3],co 5 (.un .not (.t 4))]) (.cond (.t 5) (.seq (.ops [2] [ca 6 F.interval_Whole [],sr 7 (.t 2) (.t 6)]) (.ret)) (.skip))) (.seq (.ops [2] [la 7 3 1,la 8 3 1,co 9 (.build [B false,.emp,I 0,B false,.emp,I 0,B false] [(0,3,.t 7),(3,3,.t 8)]),sr 7 (.t 2) (.t 9)]) (.ret)))
def oW:FD:=⟨1,[[.o 0 [],.o 2 [],.o 0 [],.o 0 [],.o 2 [],.o 0 [],.o 0 []]],[.cell 2 7 true],vZ⟩
def jc:Cmd:=.seq (.ops [2,3] [bx 2 3 (.t 0),bx 3 3 (.t 1),co 4 (.mv (.c (I 0)))]) (.seq (.seq (.ops [2,3,14] [la 7 3 2,ca 8 F.dyadic_Valid [.t 7],co 9 (.un .not (.t 8)),cm 10 9,⟨(some 11),(some (10,false)),.load 3 true (.t 3)⟩,⟨(some 12),(some (10,false)),.call (.c (.fn F.dyadic_Valid [] [])) [.t 11]⟩,cg 13 10 false (.un .not (.t 12)),co 14 (.pick (.t 10) (.c (B true)) (.t 13))]) (.cond (.t 14) (.seq (.ops [4] [co 4 (.mv (.c (I 0)))]) (.ret)) (.skip))) (.seq (.dops [2,3,5,6] [la 15 3 2,ca 16 F.dyadic_Sign [.t 15],la 17 3 3,ca 18 F.dyadic_Sign [.t 17],cm 5 16,cm 6 18] [(1,2)]) (.seq (.block 0 [2,3,5] (.seq (.ops [2,3,5,6,19] [cm 20 5,cm 21 6,b2 22 .lss 20 21,cm 19 22]) (.cond (.t 19) (.seq (.ops [4] [co 4 (.mv (.c (I (-1))))]) (.ret)) (.seq (.ops [2,3,5,23] [cm 24 5,cm 25 6,b2 26 .gtr 24 25,cm 23 26]) (.cond (.t 23) (.seq (.ops [4] [co 4 (.mv (.c (I 1)))]) (.ret)) (.seq (.ops [2,3,5,27] [cm 28 5,co 29 (.bin .eql (.t 28) (.c (I 0))),cm 27 29]) (.cond (.t 27) (.seq (.ops [4] [co 4 (.mv (.c (I 0)))]) (.ret)) (.skip)))))))) (.seq (.ops [4] [cm 30 5,la 31 3 2,la 32 3 3,ca 33 F.dyadic_compare [.t 31,.t 32],b2 34 .mul 30 33,cm 4 34]) (.ret)))))
def fV:FD:=⟨2,[[]],[.t 4],jc⟩
def fK:Cmd:=.seq (.ops [2,3,4] [bx 2 7 (.t 0),bx 3 7 (.t 1),al 4 [B false,.emp,I 0,B false,.emp,I 0,B false],co 5 (.mv (.c (B false)))]) (.seq (.block 0 [2,3,4] (.seq (.ops [2,3,4,7] [la 8 7 2,ca 9 F.interval_Valid [.t 8],co 10 (.un .not (.t 9)),cm 11 10,⟨(some 12),(some (11,false)),.load 7 true (.t 3)⟩,⟨(some 13),(some (11,false)),.call (.c (.fn F.interval_Valid [] [])) [.t 12]⟩,cg 14 11 false (.un .not (.t 13)),co 15 (.pick (.t 11) (.c (B true)) (.t 14)),cm 7 15]) (.cond (.t 7) (.seq (.ops [4,5] [co 16 (.build [B false,.emp,I 0,B false,.emp,I 0,B false] []),sr 7 (.t 4) (.t 16),co 5 (.mv (.c (B false)))]) (.ret)) (.seq (.ops [2,3,4,17] [fa 18 6 2,ld 19 1 18,cm 17 19]) (.cond (.t 17) (.seq (.ops [4,5] [la 20 7 3,sr 7 (.t 4) (.t 20),co 5 (.mv (.c (B true)))]) (.ret)) (.seq (.ops [2,3,4,21] [fa 22 6 3,ld 23 1 22,cm 21 23]) (.cond (.t 21) (.seq (.ops [4,5] [la 24 7 2,sr 7 (.t 4) (.t 24),co 5 (.mv (.c (B true)))]) (.ret)) (.skip)))))))) (.seq (.dops [4,6] [fa 25 0 2,la 26 3 25,fa 27 0 3,la 28 3 27,ca 29 F.interval_more [.t 26,.t 28],fa 30 3 2,la 31 3 30,fa 32 3 3,la 33 3 32,ca 34 F.interval_less [.t 31,.t 33],co 35 (.build [B false,.emp,I 0,B false,.emp,I 0,B false] [(0,3,.t 29),(3,3,.t 34)]),al 6 [B false,.emp,I 0,B false,.emp,I 0,B false],sr 7 (.t 6) (.t 35)] [(4,6),(4,8),(1,11),(3,11),(4,11),(6,11),(8,11),(9,11)]) (.seq (.seq (.ops [4,6,41] [fa 36 0 6,la 37 3 36,fa 38 3 6,la 39 3 38,ca 40 F.dyadic_Cmp [.t 37,.t 39],co 41 (.bin .gtr (.t 40) (.c (I 0)))]) (.cond (.t 41) (.seq (.ops [4,5] [co 42 (.build [B false,.emp,I 0,B false,.emp,I 0,B false] []),sr 7 (.t 4) (.t 42),co 5 (.mv (.c (B false)))]) (.ret)) (.skip))) (.seq (.ops [4,5] [la 43 7 6,sr 7 (.t 4) (.t 43),co 5 (.mv (.c (B true)))]) (.ret)))))
def dV:FD:=⟨2,[[.o 0 [],.o 2 [],.o 0 [],.o 0 [],.o 2 [],.o 0 [],.o 0 []],[]],[.cell 4 7 true,.t 5],fK⟩
def uQ:Cmd:=.seq (.ops [1] [bx 1 3 (.t 0),co 2 (.mv (.c (B false)))]) (.seq (.ops [2] [fa 3 1 1,ld 4 1 3,co 5 (.len false (.t 4)),co 6 (.bin .gtr (.t 5) (.c (I 20))),cm 7 6,cg 8 7 false (.fadr 2 (.t 1)),⟨(some 9),(some (7,false)),.load 1 false (.t 8)⟩,cg 10 7 false (.bin .gtr (.t 9) (.c (I 300))),co 11 (.pick (.t 7) (.c (B true)) (.t 10)),cm 12 11,cg 13 12 false (.fadr 2 (.t 1)),⟨(some 14),(some (12,false)),.load 1 false (.t 13)⟩,cg 15 12 false (.bin .lss (.t 14) (.c (I (-300)))),co 16 (.pick (.t 12) (.c (B true)) (.t 15)),cm 2 16]) (.ret))
def pt:FD:=⟨1,[[]],[.t 2],uQ⟩
def fE:Cmd:=.seq (.ops [1] [bx 1 3 (.t 0),co 2 (.mv (.c (B false)))]) (.seq (.seq (.ops [1,7] [fa 4 1 1,ld 5 1 4,co 6 (.len false (.t 5)),co 7 (.bin .eql (.t 6) (.c (I 0)))]) (.cond (.t 7) (.seq (.ops [2] [fa 8 0 1,ld 9 1 8,co 10 (.un .not (.t 9)),cm 11 10,cg 12 11 true (.fadr 2 (.t 1)),⟨(some 13),(some (11,true)),.load 1 false (.t 12)⟩,cg 14 11 true (.bin .eql (.t 13) (.c (I 0))),co 15 (.pick (.t 11) (.t 14) (.c (B false))),cm 2 15]) (.ret)) (.skip))) (.seq (.seq (.ops [1,48] [fa 16 1 1,ld 17 1 16,co 18 (.len false (.t 17)),co 19 (.bin .gtr (.t 18) (.c (I 256))),cm 20 19,cg 21 20 false (.fadr 1 (.t 1)),⟨(some 22),(some (20,false)),.load 1 false (.t 21)⟩,cg 23 20 false (.fadr 1 (.t 1)),⟨(some 24),(some (20,false)),.load 1 false (.t 23)⟩,cg 25 20 false (.len false (.t 24)),cg 26 20 false (.bin .sub (.t 25) (.c (I 1))),cg 27 20 false (.iadrS 1 (.t 22) (.t 26)),⟨(some 28),(some (20,false)),.load 1 false (.t 27)⟩,cg 29 20 false (.bin .eql (.t 28) (.c (U 0))),co 30 (.pick (.t 20) (.c (B true)) (.t 29)),cm 31 30,cg 32 31 false (.fadr 1 (.t 1)),⟨(some 33),(some (31,false)),.load 1 false (.t 32)⟩,cg 34 31 false (.iadrS 1 (.t 33) (.c (I 0))),⟨(some 35),(some (31,false)),.load 1 false (.t 34)⟩,cg 36 31 false (.bin .and (.t 35) (.c (U 1))),cg 37 31 false (.bin .eql (.t 36) (.c (U 0))),co 38 (.pick (.t 31) (.c (B true)) (.t 37)),cm 39 38,cg 40 39 false (.fadr 2 (.t 1)),⟨(some 41),(some (39,false)),.load 1 false (.t 40)⟩,cg 42 39 false (.bin .lss (.t 41) (.c (I (-16384)))),co 43 (.pick (.t 39) (.c (B true)) (.t 42)),cm 44 43,cg 45 44 false (.fadr 2 (.t 1)),⟨(some 46),(some (44,false)),.load 1 false (.t 45)⟩,cg 47 44 false (.bin .gtr (.t 46) (.c (I 16384))),co 48 (.pick (.t 44) (.c (B true)) (.t 47))]) (.cond (.t 48) (.seq (.ops [2] [co 2 (.mv (.c (B false)))]) (.ret)) (.skip))) (.seq (.ops [1,3] [fa 49 1 1,ld 50 1 49,ca 51 F.r02_bits [.t 50],cm 3 51]) (.seq (.ops [2] [cm 52 3,co 53 (.bin .leq (.t 52) (.c (I 4096))),cm 54 53,cg 55 54 true (.mv (.t 3)),cg 56 54 true (.fadr 2 (.t 1)),⟨(some 57),(some (54,true)),.load 1 false (.t 56)⟩,cg 58 54 true (.bin .add (.t 55) (.t 57)),cg 59 54 true (.bin .leq (.t 58) (.c (I 16384))),co 60 (.pick (.t 54) (.t 59) (.c (B false))),cm 2 60]) (.ret)))))
def dW:FD:=⟨1,[[]],[.t 2],fE⟩
def v9:Cmd:=.seq (.ops [0,3,4] [bx 3 3 (.t 1),al 4 [I 0,.emp],co 5 (.mv (.c (I 0)))]) (.seq (.block 0 [0,3,4] (.seq (.ops [0,3,4,7] [cm 8 0,co 9 (.bin .lss (.t 8) (.c (I 0))),cm 10 9,cg 11 10 false (.mv (.t 0)),cg 12 10 false (.bin .gtr (.t 11) (.c (I 8))),co 13 (.pick (.t 10) (.c (B true)) (.t 12)),cm 7 13]) (.cond (.t 7) (.seq (.ops [4,5] [co 14 (.build [I 0,.emp] []),sr 2 (.t 4) (.t 14),co 5 (.mv (.c (I 2)))]) (.ret)) (.seq (.ops [0,3,4,15] [la 16 3 3,ca 17 F.dyadic_Valid [.t 16],co 18 (.un .not (.t 17)),cm 15 18]) (.cond (.t 15) (.seq (.ops [4,5] [co 19 (.build [I 0,.emp] []),sr 2 (.t 4) (.t 19),co 5 (.mv (.c (I 1)))]) (.ret)) (.skip)))))) (.seq (.ops [0,3,4,6] [cm 20 0,ca 21 F.poly_empty [.t 20],cm 6 21]) (.seq (.seq (.ops [0,3,4,6,25] [fa 22 1 3,ld 23 1 22,co 24 (.len false (.t 23)),co 25 (.bin .gtr (.t 24) (.c (I 0)))]) (.cond (.t 25) (.dops [4,6] [cm 26 6,cm 27 0,⟨(some 28),none,.mkSl 1 [I 0] 8 (.t 27) (.t 27)⟩,la 29 3 3,ca 30 F.poly_collector_add [.t 26,.t 28,.t 29]] [(1000004,0),(2,3)]) (.skip))) (.seq (.ops [4,5] [cm 31 6,ca 32 F.poly_collector_done [.t 31],co 33 (.ext 0 (.t 32)),co 34 (.ext 1 (.t 32)),sr 2 (.t 4) (.t 33),cm 5 34]) (.ret)))))
def pJ:FD:=⟨2,[[.o 0 [],.o 5 [.o 2 [],.o 0 [],.o 2 [],.o 0 []]],[]],[.cell 4 2 true,.t 5],v9⟩
def lH:Cmd:=.seq (.ops [1,2,4] [bx 2 7 (.t 0),al 4 [B false,.emp,I 0,B false,.emp,I 0,B false]]) (.seq (.seq (.ops [1,2,4,17] [la 9 7 2,⟨(some 10),none,.buildSl 7 [B false,.emp,I 0,B false,.emp,I 0,B false] 1 [(0,.t 9)]⟩,ca 11 F.interval_known [.t 10],co 12 (.un .not (.t 11)),cm 13 12,cg 14 13 false (.mv (.t 1)),⟨(some 15),(some (13,false)),.call (.c (.fn F.interval_permitted [] [])) [.t 14]⟩,cg 16 13 false (.un .not (.t 15)),co 17 (.pick (.t 13) (.c (B true)) (.t 16))]) (.cond (.t 17) (.seq (.ops [4] [ca 18 F.interval_Whole [],sr 7 (.t 4) (.t 18)]) (.ret)) (.skip))) (.seq (.ops [1,2,4,5,6] [fa 20 0 2,la 21 3 20,cm 22 1,ca 23 F.round_Down [.t 21,.t 22],cm 19 23,co 24 (.ext 0 (.t 19)),co 25 (.ext 1 (.t 19)),al 5 [B false,.emp,I 0],sr 3 (.t 5) (.t 24),cm 6 25]) (.seq (.ops [4,5,6,7,8] [fa 27 3 2,la 28 3 27,cm 29 1,ca 30 F.round_Up [.t 28,.t 29],cm 26 30,co 31 (.ext 0 (.t 26)),co 32 (.ext 1 (.t 26)),al 7 [B false,.emp,I 0],sr 3 (.t 7) (.t 31),cm 8 32]) (.seq (.ops [4] [la 33 3 5,cm 34 6,la 35 3 7,cm 36 8,ca 37 F.interval_made [.t 33,.t 34,.t 35,.t 36],sr 7 (.t 4) (.t 37)]) (.ret)))))
def ig:FD:=⟨2,[[.o 0 [],.o 2 [],.o 0 [],.o 0 [],.o 2 [],.o 0 [],.o 0 []]],[.cell 4 7 true],lH⟩
def jd:Cmd:=.seq (.ops [0,1] [co 4 (.mv (.c (B false)))]) (.seq (.ops [4] [cm 5 0,cm 6 1,ca 7 F.slices_IndexFunc_api_Interval_api_Interval_ [.t 5,.t 6],co 8 (.bin .geq (.t 7) (.c (I 0))),cm 4 8]) (.ret))
def dO:FD:=⟨2,[[]],[.t 4],jd⟩
def gG:Cmd:=.seq (.ops [1] [bx 1 7 (.t 0),co 2 (.mv (.c (B false)))]) (.seq (.ops [2] [fa 3 6 1,ld 4 1 3,cm 5 4,⟨(some 6),(some (5,false)),.load 7 true (.t 1)⟩,⟨(some 7),(some (5,false)),.call (.c (.fn F.r05_Valid [] [])) [.t 6]⟩,cg 8 5 false (.un .not (.t 7)),co 9 (.pick (.t 5) (.c (B true)) (.t 8)),cm 2 9]) (.ret))
def et:FD:=⟨1,[[]],[.t 2],gG⟩
def wc:Cmd:=.seq (.ops [0] [al 0 [B false,.emp,I 0,B false,.emp,I 0,B false]]) (.seq (.ops [0] [co 1 (.build [B false,.emp,I 0,B false,.emp,I 0,B false] [(6,1,.c (B true))]),sr 7 (.t 0) (.t 1)]) (.ret))
def oZ:FD:=⟨0,[[.o 0 [],.o 2 [],.o 0 [],.o 0 [],.o 2 [],.o 0 [],.o 0 []]],[.cell 0 7 true],wc⟩
def gu:Cmd:=.seq (.seq (.ops [1,3,22] [cm 18 3,fa 19 1 1,ld 20 1 19,co 21 (.len false (.t 20)),b2 22 .lss 18 21]) (.cond (.t 22) (.skip) (.exit 0))) (.seq (.block 1 [1,3] (.seq (.dops [1,3,54] [fa 25 0 1,ld 26 1 25,fa 27 1 1,ld 28 1 27,cm 29 3,co 30 (.iadrS 4 (.t 28) (.t 29)),la 31 4 30,ca 32 F.r23_term [.t 26,.t 31],co 33 (.un .not (.t 32)),cm 34 33,cg 35 34 false (.mv (.t 3)),cg 36 34 false (.bin .gtr (.t 35) (.c (I 0))),cg 37 34 false (.mv (.t 36)),cg 38 37 true (.fadr 1 (.t 1)),⟨(some 39),(some (37,true)),.load 1 false (.t 38)⟩,cg 40 37 true (.mv (.t 3)),cg 41 37 true (.bin .sub (.t 40) (.c (I 1))),cg 42 37 true (.iadrS 4 (.t 39) (.t 41)),cg 43 37 true (.fadr 0 (.t 42)),⟨(some 44),(some (37,true)),.load 1 false (.t 43)⟩,cg 45 37 true (.fadr 1 (.t 1)),⟨(some 46),(some (37,true)),.load 1 false (.t 45)⟩,cg 47 37 true (.mv (.t 3)),cg 48 37 true (.iadrS 4 (.t 46) (.t 47)),cg 49 37 true (.fadr 0 (.t 48)),⟨(some 50),(some (37,true)),.load 1 false (.t 49)⟩,⟨(some 51),(some (37,true)),.call (.c (.fn F.r23_Compare [] [])) [.t 44,.t 50]⟩,cg 52 37 true (.bin .geq (.t 51) (.c (I 0))),cg 53 34 false (.pick (.t 37) (.t 52) (.c (B false))),co 54 (.pick (.t 34) (.c (B true)) (.t 53))] []) (.cond (.t 54) (.seq (.ops [2] [co 2 (.mv (.c (B false)))]) (.ret)) (.skip)))) (.ops [1,3] [cm 23 3,co 24 (.bin .add (.t 23) (.c (I 1))),cm 3 24]))
def mC:Cmd:=.seq (.ops [1] [bx 1 2 (.t 0),co 2 (.mv (.c (B false)))]) (.seq (.seq (.ops [1,17] [fa 4 0 1,ld 5 1 4,co 6 (.bin .lss (.t 5) (.c (I 0))),cm 7 6,cg 8 7 false (.fadr 0 (.t 1)),⟨(some 9),(some (7,false)),.load 1 false (.t 8)⟩,cg 10 7 false (.bin .gtr (.t 9) (.c (I 8))),co 11 (.pick (.t 7) (.c (B true)) (.t 10)),cm 12 11,cg 13 12 false (.fadr 1 (.t 1)),⟨(some 14),(some (12,false)),.load 1 false (.t 13)⟩,cg 15 12 false (.len false (.t 14)),cg 16 12 false (.bin .gtr (.t 15) (.c (I 500))),co 17 (.pick (.t 12) (.c (B true)) (.t 16))]) (.cond (.t 17) (.seq (.ops [2] [co 2 (.mv (.c (B false)))]) (.ret)) (.skip))) (.seq (.seq (.ops [1,3] [co 3 (.mv (.c (I 0)))]) (.block 0 [] (.loop [1,3] [1] gu))) (.seq (.ops [2] [co 2 (.mv (.c (B true)))]) (.ret))))
def je:FD:=⟨1,[[]],[.t 2],mC⟩
def jf:Cmd:=.seq (.ops [2,3] [bx 2 7 (.t 0),bx 3 7 (.t 1),co 4 (.mv (.c (B false)))]) (.seq (.seq (.ops [2,3,16] [la 5 7 2,ca 6 F.r05_Valid [.t 5],co 7 (.un .not (.t 6)),cm 8 7,⟨(some 9),(some (8,false)),.load 7 true (.t 3)⟩,⟨(some 10),(some (8,false)),.call (.c (.fn F.r05_Valid [] [])) [.t 9]⟩,cg 11 8 false (.un .not (.t 10)),co 12 (.pick (.t 8) (.c (B true)) (.t 11)),cm 13 12,cg 14 13 false (.fadr 6 (.t 2)),⟨(some 15),(some (13,false)),.load 1 false (.t 14)⟩,co 16 (.pick (.t 13) (.c (B true)) (.t 15))]) (.cond (.t 16) (.seq (.ops [4] [la 17 7 2,ca 18 F.r05_Valid [.t 17],cm 19 18,⟨(some 20),(some (19,true)),.load 7 true (.t 3)⟩,⟨(some 21),(some (19,true)),.call (.c (.fn F.r05_Valid [] [])) [.t 20]⟩,co 22 (.pick (.t 19) (.t 21) (.c (B false))),cm 23 22,cg 24 23 true (.fadr 6 (.t 3)),⟨(some 25),(some (23,true)),.load 1 false (.t 24)⟩,co 26 (.pick (.t 23) (.t 25) (.c (B false))),cm 4 26]) (.ret)) (.skip))) (.seq (.ops [4] [fa 27 6 3,ld 28 1 27,cm 29 28,cg 30 29 false (.fadr 0 (.t 3)),⟨(some 31),(some (29,false)),.load 3 true (.t 30)⟩,cg 32 29 false (.fadr 0 (.t 2)),⟨(some 33),(some (29,false)),.load 3 true (.t 32)⟩,⟨(some 34),(some (29,false)),.call (.c (.fn F.r02_Cmp [] [])) [.t 31,.t 33]⟩,cg 35 29 false (.bin .leq (.t 34) (.c (I 0))),cg 36 29 false (.mv (.t 35)),cg 37 36 true (.fadr 3 (.t 2)),⟨(some 38),(some (36,true)),.load 3 true (.t 37)⟩,cg 39 36 true (.fadr 3 (.t 3)),⟨(some 40),(some (36,true)),.load 3 true (.t 39)⟩,⟨(some 41),(some (36,true)),.call (.c (.fn F.r02_Cmp [] [])) [.t 38,.t 40]⟩,cg 42 36 true (.bin .leq (.t 41) (.c (I 0))),cg 43 29 false (.pick (.t 36) (.t 42) (.c (B false))),co 44 (.pick (.t 29) (.c (B true)) (.t 43)),cm 4 44]) (.ret)))
def fW:FD:=⟨2,[[]],[.t 4],jf⟩
def nZ:Cmd:=.seq (.ops [2,3,4,6] [bx 3 7 (.t 0),bx 4 7 (.t 1),al 6 [B false,.emp,I 0,B false,.emp,I 0,B false]]) (.seq (.seq (.ops [2,3,4,6,20] [la 11 7 3,la 12 7 4,⟨(some 13),none,.buildSl 7 [B false,.emp,I 0,B false,.emp,I 0,B false] 2 [(0,.t 11),(1,.t 12)]⟩,ca 14 F.interval_known [.t 13],co 15 (.un .not (.t 14)),cm 16 15,cg 17 16 false (.mv (.t 2)),⟨(some 18),(some (16,false)),.call (.c (.fn F.interval_permitted [] [])) [.t 17]⟩,cg 19 16 false (.un .not (.t 18)),co 20 (.pick (.t 16) (.c (B true)) (.t 19))]) (.cond (.t 20) (.seq (.ops [6] [ca 21 F.interval_Whole [],sr 7 (.t 6) (.t 21)]) (.ret)) (.skip))) (.seq (.ops [2,3,4,6,7,8] [fa 23 0 3,la 24 3 23,fa 25 0 4,la 26 3 25,cm 27 2,ca 28 F.round_AddDown [.t 24,.t 26,.t 27],cm 22 28,co 29 (.ext 0 (.t 22)),co 30 (.ext 1 (.t 22)),al 7 [B false,.emp,I 0],sr 3 (.t 7) (.t 29),cm 8 30]) (.seq (.ops [6,7,8,9,10] [fa 32 3 3,la 33 3 32,fa 34 3 4,la 35 3 34,cm 36 2,ca 37 F.round_AddUp [.t 33,.t 35,.t 36],cm 31 37,co 38 (.ext 0 (.t 31)),co 39 (.ext 1 (.t 31)),al 9 [B false,.emp,I 0],sr 3 (.t 9) (.t 38),cm 10 39]) (.seq (.ops [6] [la 40 3 7,cm 41 8,la 42 3 9,cm 43 10,ca 44 F.interval_made [.t 40,.t 41,.t 42,.t 43],sr 7 (.t 6) (.t 44)]) (.ret)))))
def jS:FD:=⟨3,[[.o 0 [],.o 2 [],.o 0 [],.o 0 [],.o 2 [],.o 0 [],.o 0 []]],[.cell 6 7 true],nZ⟩
def yB:Cmd:=.seq (.ops [2,3,4,6] [bx 3 7 (.t 0),bx 4 7 (.t 1),al 6 [B false,.emp,I 0,B false,.emp,I 0,B false]]) (.seq (.dops [6] [la 7 7 3,la 8 7 4,ca 9 F.interval_Neg [.t 8],cm 10 2,ca 11 F.interval_Add [.t 7,.t 9,.t 10],sr 7 (.t 6) (.t 11)] [(0,2)]) (.ret))
def qT:FD:=⟨3,[[.o 0 [],.o 2 [],.o 0 [],.o 0 [],.o 2 [],.o 0 [],.o 0 []]],[.cell 6 7 true],yB⟩
def n5:Cmd:=.seq (.ops [2,3,4,6] [bx 3 7 (.t 0),bx 4 7 (.t 1),al 6 [B false,.emp,I 0,B false,.emp,I 0,B false]]) (.seq (.seq (.ops [2,3,4,6,16] [la 7 7 3,la 8 7 4,⟨(some 9),none,.buildSl 7 [B false,.emp,I 0,B false,.emp,I 0,B false] 2 [(0,.t 7),(1,.t 8)]⟩,ca 10 F.interval_known [.t 9],co 11 (.un .not (.t 10)),cm 12 11,cg 13 12 false (.mv (.t 2)),⟨(some 14),(some (12,false)),.call (.c (.fn F.interval_permitted [] [])) [.t 13]⟩,cg 15 12 false (.un .not (.t 14)),co 16 (.pick (.t 12) (.c (B true)) (.t 15))]) (.cond (.t 16) (.seq (.ops [6] [ca 17 F.interval_Whole [],sr 7 (.t 6) (.t 17)]) (.ret)) (.skip))) (.seq (.ops [6] [la 18 7 3,la 19 7 4,cm 20 2,ca 21 F.interval_four [.t 18,.t 19,.t 20,.c (.fn F.round_MulDown [] []),.c (.fn F.round_MulUp [] [])],sr 7 (.t 6) (.t 21)]) (.ret)))
def jT:FD:=⟨3,[[.o 0 [],.o 2 [],.o 0 [],.o 0 [],.o 2 [],.o 0 [],.o 0 []]],[.cell 6 7 true],n5⟩
def afy:Cmd:=.seq (.ops [0,2] [al 2 [B false,.emp,I 0]]) (.seq (.ops [2] [cm 3 0,ca 4 F.r02_Int [.t 3],sr 3 (.t 2) (.t 4)]) (.ret))
def acj:FD:=⟨1,[[.o 0 [],.o 2 [],.o 0 []]],[.cell 2 3 true],afy⟩
def EA:Cmd:=.seq (.ops [2,3] [bx 2 7 (.t 0),bx 3 7 (.t 1),co 4 (.mv (.c (B false)))]) (.seq (.ops [4] [fa 5 6 2,ld 6 1 5,fa 7 6 3,ld 8 1 7,co 9 (.eqc false 0 (.t 6) (.t 8)),cm 10 9,cg 11 10 true (.fadr 0 (.t 2)),⟨(some 12),(some (10,true)),.load 3 true (.t 11)⟩,cg 13 10 true (.fadr 0 (.t 3)),⟨(some 14),(some (10,true)),.load 3 true (.t 13)⟩,⟨(some 15),(some (10,true)),.call (.c (.fn F.r02_Equal [] [])) [.t 12,.t 14]⟩,co 16 (.pick (.t 10) (.t 15) (.c (B false))),cm 17 16,cg 18 17 true (.fadr 3 (.t 2)),⟨(some 19),(some (17,true)),.load 3 true (.t 18)⟩,cg 20 17 true (.fadr 3 (.t 3)),⟨(some 21),(some (17,true)),.load 3 true (.t 20)⟩,⟨(some 22),(some (17,true)),.call (.c (.fn F.r02_Equal [] [])) [.t 19,.t 21]⟩,co 23 (.pick (.t 17) (.t 22) (.c (B false))),cm 4 23]) (.ret))
def wd:FD:=⟨2,[[]],[.t 4],EA⟩
def we:Cmd:=.seq (.ops [1] [bx 1 7 (.t 0),co 2 (.mv (.c (B false)))]) (.seq (.ops [2] [fa 3 0 1,la 4 3 3,ca 5 F.l24_long [.t 4],cm 6 5,cg 7 6 false (.fadr 3 (.t 1)),⟨(some 8),(some (6,false)),.load 3 true (.t 7)⟩,⟨(some 9),(some (6,false)),.call (.c (.fn F.l24_long [] [])) [.t 8]⟩,co 10 (.pick (.t 6) (.c (B true)) (.t 9)),cm 2 10]) (.ret))
def pK:FD:=⟨1,[[]],[.t 2],we⟩
def qU:Cmd:=.seq (.ops [1,2,3] [bx 3 2 (.t 0),co 6 (.mv (.c (B false)))]) (.seq (.ops [6] [la 7 2 3,cm 8 1,ca 9 F.bound_domain [.t 7,.t 8],cm 10 9,cg 11 10 true (.mv (.t 2)),cg 12 10 true (.bin .geq (.t 11) (.c (I 8))),co 13 (.pick (.t 10) (.t 12) (.c (B false))),cm 14 13,cg 15 14 true (.mv (.t 2)),cg 16 14 true (.bin .leq (.t 15) (.c (I 512))),co 17 (.pick (.t 14) (.t 16) (.c (B false))),cm 6 17]) (.ret))
def me:FD:=⟨3,[[]],[.t 6],qU⟩
def Ay:Cmd:=.seq (.ops [0] [al 0 [B false,.emp,I 0,B false,.emp,I 0,B false]]) (.seq (.ops [0] [co 1 (.build [B false,.emp,I 0,B false,.emp,I 0,B false] [(6,1,.c (B true))]),sr 7 (.t 0) (.t 1)]) (.ret))
def sd:FD:=⟨0,[[.o 0 [],.o 2 [],.o 0 [],.o 0 [],.o 2 [],.o 0 [],.o 0 []]],[.cell 0 7 true],Ay⟩
def tY:Cmd:=.seq (.ops [1,2,3,6] [bx 3 7 (.t 0),al 6 [B false,.emp,I 0,B false,.emp,I 0,B false]]) (.seq (.seq (.ops [1,2,3,6,8] [cm 7 1,co 8 (.bin .leq (.t 7) (.c (I 16)))]) (.cond (.t 8) (.seq (.ops [6] [la 9 7 3,cm 10 1,cm 11 2,ca 12 F.interval_Power [.t 9,.t 10,.t 11],sr 7 (.t 6) (.t 12)]) (.ret)) (.skip))) (.seq (.dops [6] [la 13 7 3,cm 14 2,ca 15 F.interval_Power [.t 13,.c (I 16),.t 14],la 16 7 3,cm 17 1,co 18 (.bin .sub (.t 17) (.c (I 16))),cm 19 2,ca 20 F.interval_Power [.t 16,.t 18,.t 19],cm 21 2,ca 22 F.interval_Mul [.t 15,.t 20,.t 21],sr 7 (.t 6) (.t 22)] [(2,3)]) (.ret)))
def n6:FD:=⟨3,[[.o 0 [],.o 2 [],.o 0 [],.o 0 [],.o 2 [],.o 0 [],.o 0 []]],[.cell 6 7 true],tY⟩
def ij:Cmd:=.seq (.ops [4,20,21,22,23] [b2 23 .lss 22 21]) (.seq (.cond (.t 23) (.skip) (.exit 0)) (.seq (.block 1 [4,20,21,22] (.seq (.ops [4,6,20,21,22] [co 24 (.iadrS 4 (.t 20) (.t 22)),la 25 4 24,al 6 [.emp,B false,.emp,I 0],sr 4 (.t 6) (.t 25)]) (.dops [4,20,21,22] [cm 26 4,fa 27 0 6,ld 28 1 27,ca 29 F.slices_Index_int_int_ [.t 28,.c (I 1)],co 30 (.bin .add (.t 29) (.c (I 1))),fa 31 1 6,la 32 3 31,co 33 (.iadrS 3 (.t 26) (.t 30)),sr 3 (.t 33) (.t 32)] [(3,6)]))) (.ops [4,20,21,22] [co 34 (.bin .add (.t 22) (.c (I 1))),cm 22 34])))
def n7:Cmd:=.seq (.ops [1] [bx 1 2 (.t 0),co 2 (.mv (.c .emp)),co 3 (.mv (.c (B false)))]) (.seq (.seq (.ops [1,14] [la 7 2 1,ca 8 F.poly_Valid [.t 7],co 9 (.un .not (.t 8)),cm 10 9,⟨(some 11),(some (10,false)),.load 2 true (.t 1)⟩,⟨(some 12),(some (10,false)),.call (.c (.fn F.poly_Degree [] [])) [.t 11]⟩,cg 13 10 false (.bin .gtr (.t 12) (.c (I 1))),co 14 (.pick (.t 10) (.c (B true)) (.t 13))]) (.cond (.t 14) (.seq (.ops [2,3] [co 2 (.mv (.c .emp)),co 3 (.mv (.c (B false)))]) (.ret)) (.skip))) (.seq (.ops [1,4] [fa 15 0 1,ld 16 1 15,co 17 (.bin .add (.t 16) (.c (I 1))),⟨(some 18),none,.mkSl 3 [B false,.emp,I 0] 40 (.t 17) (.t 17)⟩,cm 4 18]) (.seq (.seq (.ops [4,20,21,22] [fa 19 1 1,ld 20 1 19,co 21 (.len false (.t 20)),co 22 (.mv (.c (I 0)))]) (.block 0 [4] (.loop [4,20,21,22] [1,18] ij))) (.seq (.ops [2,3] [cm 35 4,cm 2 35,co 3 (.mv (.c (B true)))]) (.ret)))))
def jU:FD:=⟨1,[[.o 4 [.o 0 [],.o 2 [],.o 0 []]],[]],[.t 2,.t 3],n7⟩
def kD:Cmd:=.seq (.ops [3,4,5,6,8] [bx 4 3 (.t 0),bx 5 3 (.t 1),bx 6 7 (.t 2),al 8 [B false,.emp,I 0,B false,.emp,I 0,B false]]) (.seq (.dops [3,4,5,8,9,10] [fa 17 0 6,la 18 3 17,fa 19 3 6,la 20 3 19,al 9 [B false,.emp,I 0],al 10 [B false,.emp,I 0],sr 3 (.t 9) (.t 18),sr 3 (.t 10) (.t 20)] [(1,4),(3,4),(1,5),(3,5),(4,5),(3,6)]) (.seq (.seq (.ops [3,4,5,8,9,10,23] [la 21 3 5,ca 22 F.dyadic_Sign [.t 21],co 23 (.bin .lss (.t 22) (.c (I 0)))]) (.cond (.t 23) (.ops [3,4,5,8,9,10] [la 24 3 10,la 25 3 9,sr 3 (.t 9) (.t 24),sr 3 (.t 10) (.t 25)]) (.skip))) (.seq (.ops [3,4,5,8,10,11,12] [la 27 3 5,la 28 3 9,ca 29 F.dyadic_Mul [.t 27,.t 28],cm 26 29,co 30 (.ext 0 (.t 26)),co 31 (.ext 1 (.t 26)),al 11 [B false,.emp,I 0],sr 3 (.t 11) (.t 30),cm 12 31]) (.seq (.ops [3,4,8,11,12,13,14] [la 33 3 5,la 34 3 10,ca 35 F.dyadic_Mul [.t 33,.t 34],cm 32 35,co 36 (.ext 0 (.t 32)),co 37 (.ext 1 (.t 32)),al 13 [B false,.emp,I 0],sr 3 (.t 13) (.t 36),cm 14 37]) (.seq (.seq (.ops [3,4,8,11,13,43] [cm 38 12,co 39 (.bin .neq (.t 38) (.c (I 0))),cm 40 39,cg 41 40 false (.mv (.t 14)),cg 42 40 false (.bin .neq (.t 41) (.c (I 0))),co 43 (.pick (.t 40) (.c (B true)) (.t 42))]) (.cond (.t 43) (.seq (.ops [8] [ca 44 F.bound_whole [],sr 7 (.t 8) (.t 44)]) (.ret)) (.skip))) (.seq (.ops [3,4,8,12,13,15] [la 46 3 4,la 47 3 11,cm 48 3,ca 49 F.round_AddDown [.t 46,.t 47,.t 48],cm 45 49,co 50 (.ext 0 (.t 45)),co 51 (.ext 1 (.t 45)),al 15 [B false,.emp,I 0],sr 3 (.t 15) (.t 50),cm 12 51]) (.seq (.ops [8,12,14,15,16] [la 53 3 4,la 54 3 13,cm 55 3,ca 56 F.round_AddUp [.t 53,.t 54,.t 55],cm 52 56,co 57 (.ext 0 (.t 52)),co 58 (.ext 1 (.t 52)),al 16 [B false,.emp,I 0],sr 3 (.t 16) (.t 57),cm 14 58]) (.seq (.seq (.ops [8,15,16,64] [cm 59 12,co 60 (.bin .neq (.t 59) (.c (I 0))),cm 61 60,cg 62 61 false (.mv (.t 14)),cg 63 61 false (.bin .neq (.t 62) (.c (I 0))),co 64 (.pick (.t 61) (.c (B true)) (.t 63))]) (.cond (.t 64) (.seq (.ops [8] [ca 65 F.bound_whole [],sr 7 (.t 8) (.t 65)]) (.ret)) (.skip))) (.seq (.ops [8] [la 66 3 15,la 67 3 16,co 68 (.build [B false,.emp,I 0,B false,.emp,I 0,B false] [(0,3,.t 66),(3,3,.t 67)]),sr 7 (.t 8) (.t 68)]) (.ret))))))))))
def dY:FD:=⟨4,[[.o 0 [],.o 2 [],.o 0 [],.o 0 [],.o 2 [],.o 0 [],.o 0 []]],[.cell 8 7 true],kD⟩
def ik:Cmd:=.seq (.ops [6,15,16,82,83,84,89,90,91,92] [b2 92 .lss 91 90]) (.seq (.cond (.t 92) (.skip) (.exit 8)) (.seq (.block 9 [6,15,16,82,83,84,89,90,91] (.seq (.ops [6,15,16,17,18,82,83,84,89,90,91] [cm 93 91,co 94 (.iadrS 1 (.t 89) (.t 91)),ld 95 1 94,cm 17 93,cm 18 95]) (.ops [6,15,16,82,83,84,89,90,91] [cm 96 16,cm 97 18,cm 98 6,cm 99 17,ca 100 F.bound_grid_step [.t 98,.t 99],b2 101 .mul 97 100,b2 102 .add 96 101,cm 16 102]))) (.ops [6,15,16,82,83,84,89,90,91] [co 103 (.bin .add (.t 91) (.c (I 1))),cm 91 103])))
def o5:Cmd:=.seq (.ops [6,82,83,84,85] [b2 85 .lss 84 83]) (.seq (.cond (.t 85) (.skip) (.exit 6)) (.seq (.block 7 [6,82,83,84] (.seq (.ops [6,15,82,83,84] [co 86 (.iadrS 4 (.t 82) (.t 84)),la 87 4 86,al 15 [.emp,B false,.emp,I 0],sr 4 (.t 15) (.t 87)]) (.seq (.ops [6,15,16,82,83,84] [co 16 (.mv (.c (I 0)))]) (.seq (.seq (.ops [6,15,16,82,83,84,89,90,91] [fa 88 0 15,ld 89 1 88,co 90 (.len false (.t 89)),co 91 (.mv (.c (I 0)))]) (.block 8 [6,15,16,82,83,84] (.loop [6,15,16,82,83,84,89,90,91] [2,15,21,24,2624] ik))) (.dops [6,82,83,84] [cm 104 6,nk 105 104,fa 106 1 105,ld 107 1 106,cm 108 16,fa 109 1 15,la 110 3 109,ca 111 F.interval_Point [.t 110],co 112 (.iadrS 7 (.t 107) (.t 108)),sr 7 (.t 112) (.t 111)] [(3,7)]))))) (.ops [6,82,83,84] [co 113 (.bin .add (.t 84) (.c (I 1))),cm 84 113])))
def fT:Cmd:=.seq (.ops [2,6,11,60,61,62,63] [b2 63 .lss 62 61]) (.seq (.cond (.t 63) (.skip) (.exit 4)) (.seq (.block 5 [2,6,11,60,61,62] (.seq (.ops [2,6,11,13,60,61,62] [co 64 (.iadrS 1 (.t 60) (.t 62)),ld 65 1 64,cm 13 65]) (.seq (.ops [2,6,11,60,61,62] [cm 66 11,cm 67 13,co 68 (.bin .add (.t 67) (.c (I 1))),b2 69 .mul 66 68,cm 11 69]) (.seq (.ops [2,6,11,60,61,62,71] [cm 70 11,co 71 (.bin .gtr (.t 70) (.c (I 400)))]) (.cond (.t 71) (.seq (.ops [4,5] [co 4 (.mv (.c (.v (.pointer none)))),co 5 (.mv (.c (B false)))]) (.ret)) (.skip)))))) (.ops [2,6,11,60,61,62] [co 72 (.bin .add (.t 62) (.c (I 1))),cm 62 72])))
def il:Cmd:=.seq (.ops [2,6,26,27,28,33,34,35,36] [b2 36 .lss 35 34]) (.seq (.cond (.t 36) (.skip) (.exit 2)) (.seq (.block 3 [2,6,26,27,28,33,34,35] (.seq (.ops [2,6,9,10,26,27,28,33,34,35] [cm 37 35,co 38 (.iadrS 1 (.t 33) (.t 35)),ld 39 1 38,cm 9 37,cm 10 39]) (.dops [2,6,26,27,28,33,34,35] [cm 40 6,nk 41 40,fa 42 0 41,ld 43 1 42,cm 44 9,cm 45 6,nk 46 45,fa 47 0 46,ld 48 1 47,cm 49 9,co 50 (.iadrS 1 (.t 48) (.t 49)),ld 51 1 50,cm 52 10,co 53 (.mnx false (.t 51) [.t 52]),co 54 (.iadrS 1 (.t 43) (.t 44)),sr 1 (.t 54) (.t 53)] []))) (.ops [2,6,26,27,28,33,34,35] [co 55 (.bin .add (.t 35) (.c (I 1))),cm 35 55])))
def o6:Cmd:=.seq (.ops [2,6,26,27,28,29] [b2 29 .lss 28 27]) (.seq (.cond (.t 29) (.skip) (.exit 0)) (.seq (.block 1 [2,6,26,27,28] (.seq (.ops [2,6,8,26,27,28] [co 30 (.iadrS 4 (.t 26) (.t 28)),la 31 4 30,al 8 [.emp,B false,.emp,I 0],sr 4 (.t 8) (.t 31)]) (.seq (.ops [2,6,26,27,28,33,34,35] [fa 32 0 8,ld 33 1 32,co 34 (.len false (.t 33)),co 35 (.mv (.c (I 0)))]) (.block 2 [2,6,26,27,28] (.loop [2,6,26,27,28,33,34,35] [2,8,21,24,2624] il))))) (.ops [2,6,26,27,28] [co 56 (.bin .add (.t 28) (.c (I 1))),cm 28 56])))
def se:Cmd:=.seq (.ops [1,2] [bx 2 2 (.t 0),co 4 (.mv (.c (.v (.pointer none)))),co 5 (.mv (.c (B false)))]) (.seq (.ops [2,6] [fa 19 0 2,ld 20 1 19,⟨(some 21),none,.mkSl 1 [I 0] 8 (.t 20) (.t 20)⟩,cm 22 1,co 23 (.build [.emp,.emp,I 0] [(0,1,.t 21),(2,1,.t 22)]),bx 24 3 (.t 23),cm 6 24]) (.seq (.seq (.ops [2,6,26,27,28] [fa 25 1 2,ld 26 1 25,co 27 (.len false (.t 26)),co 28 (.mv (.c (I 0)))]) (.block 0 [2,6] (.loop [2,6,26,27,28] [2,21,24,2624] o6))) (.seq (.ops [2,6,11] [co 11 (.mv (.c (I 1)))]) (.seq (.seq (.ops [2,6,11,60,61,62] [cm 57 6,nk 58 57,fa 59 0 58,ld 60 1 59,co 61 (.len false (.t 60)),co 62 (.mv (.c (I 0)))]) (.block 4 [2,6,11] (.loop [2,6,11,60,61,62] [2,21,24,2624] fT))) (.seq (.ops [2,6] [cm 73 6,co 74 (.build [B false,.emp,I 0] []),ca 75 F.interval_Point [.t 74],⟨(some 76),none,.buildSl 7 [B false,.emp,I 0,B false,.emp,I 0,B false] 1 [(0,.t 75)]⟩,cm 77 11,ca 78 F.slices_Repeat_api_Interval_api_Interval_ [.t 76,.t 77],nk 79 73,fa 80 1 79,sr 1 (.t 80) (.t 78)]) (.seq (.seq (.ops [6,82,83,84] [fa 81 1 2,ld 82 1 81,co 83 (.len false (.t 82)),co 84 (.mv (.c (I 0)))]) (.block 6 [6] (.loop [6,82,83,84] [2,21,24,2624] o5))) (.seq (.ops [4,5] [cm 114 6,cm 4 114,co 5 (.mv (.c (B true)))]) (.ret))))))))
def mT:FD:=⟨2,[[],[]],[.t 4,.t 5],se⟩
def uz:Cmd:=.seq (.ops [1,3,5] [bx 3 1 (.t 0),bx 5 7 (.t 2)]) (.seq (.ops [1,3,5,6] [fa 9 0 5,la 10 3 9,ca 11 F.interval_Point [.t 10],al 6 [B false,.emp,I 0,B false,.emp,I 0,B false],sr 7 (.t 6) (.t 11)]) (.seq (.dops [1,3,6,7] [fa 12 3 5,la 13 3 12,ca 14 F.interval_Point [.t 13],la 15 7 6,ld 16 1 3,nk 17 16,fa 18 2 17,ld 19 1 18,ca 20 F.interval_Sub [.t 14,.t 15,.t 19],al 7 [B false,.emp,I 0,B false,.emp,I 0,B false],sr 7 (.t 7) (.t 20)] [(2,3),(2,4),(2,7),(1,9),(2,9),(3,9),(4,9),(7,9),(8,9)]) (.seq (.ops [1,3,6,7,8] [ld 21 1 3,nk 22 21,fa 23 0 22,ld 24 1 23,cm 25 1,co 26 (.iadrS 1 (.t 24) (.t 25)),ld 27 1 26,al 8 [I 0],sr 1 (.t 8) (.t 27)]) (.ops [] [ld 28 1 3,cm 29 1,co 30 (.mkF F.bound_grid_unit_1 [] [.t 8,.t 3,.t 6,.t 7]),ca 31 F.bound_grid_lines [.t 28,.t 29,.t 30]]))))
def nC:FD:=⟨3,[],[],uz⟩
def pu:Cmd:=.seq (.ops [1,2] [bx 2 1 (.t 0)]) (.seq (.ops [1,2,4] [ld 5 1 2,nk 6 5,fa 7 0 6,ld 8 1 7,cm 9 1,co 10 (.iadrS 1 (.t 8) (.t 9)),ld 11 1 10,al 4 [I 0],sr 1 (.t 4) (.t 11)]) (.ops [] [ld 12 1 2,cm 13 1,co 14 (.mkF F.bound_grid_bernstein_1 [] [.t 4,.t 2]),ca 15 F.bound_grid_lines [.t 12,.t 13,.t 14]]))
def jC:FD:=⟨2,[],[],pu⟩
def qV:Cmd:=.seq (.ops [2,3,4] [bx 2 7 (.t 0),bx 3 7 (.t 1),al 4 [B false,.emp,I 0,B false,.emp,I 0,B false]]) (.seq (.seq (.ops [2,3,4,9] [la 5 7 2,la 6 7 3,⟨(some 7),none,.buildSl 7 [B false,.emp,I 0,B false,.emp,I 0,B false] 2 [(0,.t 5),(1,.t 6)]⟩,ca 8 F.interval_known [.t 7],co 9 (.un .not (.t 8))]) (.cond (.t 9) (.seq (.ops [4] [ca 10 F.interval_Whole [],sr 7 (.t 4) (.t 10)]) (.ret)) (.skip))) (.seq (.dops [4] [fa 11 0 2,la 12 3 11,fa 13 0 3,la 14 3 13,ca 15 F.interval_less [.t 12,.t 14],fa 16 3 2,la 17 3 16,fa 18 3 3,la 19 3 18,ca 20 F.interval_more [.t 17,.t 19],co 21 (.build [B false,.emp,I 0,B false,.emp,I 0,B false] [(0,3,.t 15),(3,3,.t 20)]),sr 7 (.t 4) (.t 21)] [(4,6),(4,8)]) (.ret)))
def lI:FD:=⟨2,[[.o 0 [],.o 2 [],.o 0 [],.o 0 [],.o 2 [],.o 0 [],.o 0 []]],[.cell 4 7 true],qV⟩
def jV:Cmd:=.seq (.ops [2,3] [bx 2 3 (.t 0),bx 3 3 (.t 1),co 4 (.mv (.c (I 0)))]) (.seq (.dops [2,3,5,6] [la 7 3 2,ca 8 F.r02_Sign [.t 7],la 9 3 3,ca 10 F.r02_Sign [.t 9],cm 5 8,cm 6 10] [(1,2)]) (.seq (.seq (.ops [2,3,5,6,13] [cm 11 5,cm 12 6,b2 13 .neq 11 12]) (.cond (.t 13) (.seq (.seq (.ops [16] [cm 14 5,cm 15 6,b2 16 .lss 14 15]) (.cond (.t 16) (.seq (.ops [4] [co 4 (.mv (.c (I (-1))))]) (.ret)) (.skip))) (.seq (.ops [4] [co 4 (.mv (.c (I 1)))]) (.ret))) (.skip))) (.seq (.seq (.ops [2,3,5,18] [cm 17 5,co 18 (.bin .eql (.t 17) (.c (I 0)))]) (.cond (.t 18) (.seq (.ops [4] [co 4 (.mv (.c (I 0)))]) (.ret)) (.skip))) (.seq (.seq (.dops [2,3,5,23] [la 19 3 2,ca 20 F.r02_Top [.t 19],la 21 3 3,ca 22 F.r02_Top [.t 21],b2 23 .neq 20 22] [(1,2)]) (.cond (.t 23) (.seq (.seq (.dops [31] [la 24 3 2,ca 25 F.r02_Top [.t 24],la 26 3 3,ca 27 F.r02_Top [.t 26],b2 28 .lss 25 27,cm 29 5,co 30 (.bin .gtr (.t 29) (.c (I 0))),co 31 (.eqc false 0 (.t 28) (.t 30))] [(1,2)]) (.cond (.t 31) (.seq (.ops [4] [co 4 (.mv (.c (I (-1))))]) (.ret)) (.skip))) (.seq (.ops [4] [co 4 (.mv (.c (I 1)))]) (.ret))) (.skip))) (.seq (.dops [4] [la 32 3 2,la 33 3 3,ca 34 F.r02_Neg [.t 33],ca 35 F.r02_Sum [.t 32,.t 34],ca 36 F.r02_Sign [.t 35],cm 4 36] [(0,2)]) (.ret))))))
def gH:FD:=⟨2,[[]],[.t 4],jV⟩
def qW:Cmd:=.seq (.ops [1] [bx 1 3 (.t 0),co 2 (.mv (.c (B false)))]) (.seq (.ops [2] [fa 3 0 1,ld 4 1 3,co 5 (.un .not (.t 4)),cm 6 5,cg 7 6 true (.fadr 1 (.t 1)),⟨(some 8),(some (6,true)),.load 1 false (.t 7)⟩,cg 9 6 true (.len false (.t 8)),cg 10 6 true (.bin .eql (.t 9) (.c (I 0))),co 11 (.pick (.t 6) (.t 10) (.c (B false))),cm 12 11,cg 13 12 true (.fadr 2 (.t 1)),⟨(some 14),(some (12,true)),.load 1 false (.t 13)⟩,cg 15 12 true (.bin .eql (.t 14) (.c (I 0))),co 16 (.pick (.t 12) (.t 15) (.c (B false))),cm 2 16]) (.ret))
def mD:FD:=⟨1,[[]],[.t 2],qW⟩
def gw:Cmd:=.seq (.ops [1] [bx 1 3 (.t 0),co 2 (.mv (.c (B false)))]) (.seq (.seq (.ops [1,6] [fa 3 1 1,ld 4 1 3,co 5 (.len false (.t 4)),co 6 (.bin .eql (.t 5) (.c (I 0)))]) (.cond (.t 6) (.seq (.ops [2] [fa 7 0 1,ld 8 1 7,co 9 (.un .not (.t 8)),cm 10 9,cg 11 10 true (.fadr 2 (.t 1)),⟨(some 12),(some (10,true)),.load 1 false (.t 11)⟩,cg 13 10 true (.bin .eql (.t 12) (.c (I 0))),co 14 (.pick (.t 10) (.t 13) (.c (B false))),cm 2 14]) (.ret)) (.skip))) (.seq (.ops [2] [fa 15 1 1,ld 16 1 15,co 17 (.len false (.t 16)),co 18 (.bin .leq (.t 17) (.c (I 256))),cm 19 18,cg 20 19 true (.fadr 1 (.t 1)),⟨(some 21),(some (19,true)),.load 1 false (.t 20)⟩,cg 22 19 true (.iadrS 1 (.t 21) (.c (I 0))),⟨(some 23),(some (19,true)),.load 1 false (.t 22)⟩,cg 24 19 true (.bin .rem (.t 23) (.c (U 2))),cg 25 19 true (.bin .eql (.t 24) (.c (U 1))),co 26 (.pick (.t 19) (.t 25) (.c (B false))),cm 27 26,cg 28 27 true (.fadr 1 (.t 1)),⟨(some 29),(some (27,true)),.load 1 false (.t 28)⟩,cg 30 27 true (.fadr 1 (.t 1)),⟨(some 31),(some (27,true)),.load 1 false (.t 30)⟩,cg 32 27 true (.len false (.t 31)),cg 33 27 true (.bin .sub (.t 32) (.c (I 1))),cg 34 27 true (.iadrS 1 (.t 29) (.t 33)),⟨(some 35),(some (27,true)),.load 1 false (.t 34)⟩,cg 36 27 true (.bin .neq (.t 35) (.c (U 0))),co 37 (.pick (.t 27) (.t 36) (.c (B false))),cm 38 37,⟨(some 39),(some (38,true)),.load 3 true (.t 1)⟩,⟨(some 40),(some (38,true)),.call (.c (.fn F.dyadic_inRange [] [])) [.t 39]⟩,co 41 (.pick (.t 38) (.t 40) (.c (B false))),cm 2 41]) (.ret)))
def eJ:FD:=⟨1,[[]],[.t 2],gw⟩
def mf:Cmd:=.seq (.ops [1] [bx 1 3 (.t 0),co 2 (.mv (.c (I 0)))]) (.seq (.block 0 [] (.seq (.ops [1,3] [la 4 3 1,ca 5 F.dyadic_Valid [.t 4],co 6 (.un .not (.t 5)),cm 7 6,cg 8 7 false (.fadr 1 (.t 1)),⟨(some 9),(some (7,false)),.load 1 false (.t 8)⟩,cg 10 7 false (.len false (.t 9)),cg 11 7 false (.bin .eql (.t 10) (.c (I 0))),co 12 (.pick (.t 7) (.c (B true)) (.t 11)),cm 3 12]) (.cond (.t 3) (.seq (.ops [2] [co 2 (.mv (.c (I 0)))]) (.ret)) (.seq (.ops [13] [fa 14 0 1,ld 15 1 14,cm 13 15]) (.cond (.t 13) (.seq (.ops [2] [co 2 (.mv (.c (I (-1))))]) (.ret)) (.skip)))))) (.seq (.ops [2] [co 2 (.mv (.c (I 1)))]) (.ret)))
def iP:FD:=⟨1,[[]],[.t 2],mf⟩
def lJ:Cmd:=.seq (.ops [2,3] [bx 2 3 (.t 0),bx 3 3 (.t 1),co 4 (.mv (.c (I 0)))]) (.seq (.dops [2,3,5,6] [la 8 3 2,ca 9 F.dyadic_Top [.t 8],la 10 3 3,ca 11 F.dyadic_Top [.t 10],cm 5 9,cm 6 11] [(1,2)]) (.seq (.block 0 [2,3] (.seq (.ops [2,3,5,6,12] [cm 13 5,cm 14 6,b2 15 .lss 13 14,cm 12 15]) (.cond (.t 12) (.seq (.ops [4] [co 4 (.mv (.c (I (-1))))]) (.ret)) (.seq (.ops [2,3,16] [cm 17 5,cm 18 6,b2 19 .gtr 17 18,cm 16 19]) (.cond (.t 16) (.seq (.ops [4] [co 4 (.mv (.c (I 1)))]) (.ret)) (.skip)))))) (.seq (.ops [2,3,7] [fa 20 2 2,ld 21 1 20,fa 22 2 3,ld 23 1 22,co 24 (.mnx true (.t 21) [.t 23]),cm 7 24]) (.seq (.dops [4] [fa 25 1 2,ld 26 1 25,fa 27 2 2,ld 28 1 27,cm 29 7,b2 30 .sub 28 29,ca 31 F.dyadic_shifted [.t 26,.t 30],fa 32 1 3,ld 33 1 32,fa 34 2 3,ld 35 1 34,cm 36 7,b2 37 .sub 35 36,ca 38 F.dyadic_shifted [.t 33,.t 37],ca 39 F.natural_Cmp [.t 31,.t 38],cm 4 39] [(6,8),(6,10)]) (.ret)))))
def im:FD:=⟨2,[[]],[.t 4],lJ⟩
def gx:Cmd:=.seq (.ops [1] [bx 1 7 (.t 0),co 2 (.mv (.c (B false)))]) (.seq (.seq (.ops [1,5] [fa 4 6 1,ld 5 1 4]) (.cond (.t 5) (.seq (.ops [1,3] [co 3 (.mv (.c (.fn F.interval_Valid_1 [] [])))]) (.seq (.ops [2] [cm 6 3,fa 7 0 1,la 8 3 7,⟨(some 9),none,.call (.t 6) [.t 8]⟩,cm 10 9,cg 11 10 true (.mv (.t 3)),cg 12 10 true (.fadr 3 (.t 1)),⟨(some 13),(some (10,true)),.load 3 true (.t 12)⟩,⟨(some 14),(some (10,true)),.call (.t 11) [.t 13]⟩,co 15 (.pick (.t 10) (.t 14) (.c (B false))),cm 2 15]) (.ret))) (.skip))) (.seq (.ops [2] [fa 16 0 1,la 17 3 16,ca 18 F.dyadic_Valid [.t 17],cm 19 18,cg 20 19 true (.fadr 3 (.t 1)),⟨(some 21),(some (19,true)),.load 3 true (.t 20)⟩,⟨(some 22),(some (19,true)),.call (.c (.fn F.dyadic_Valid [] [])) [.t 21]⟩,co 23 (.pick (.t 19) (.t 22) (.c (B false))),cm 24 23,cg 25 24 true (.fadr 0 (.t 1)),⟨(some 26),(some (24,true)),.load 3 true (.t 25)⟩,cg 27 24 true (.fadr 3 (.t 1)),⟨(some 28),(some (24,true)),.load 3 true (.t 27)⟩,⟨(some 29),(some (24,true)),.call (.c (.fn F.dyadic_Cmp [] [])) [.t 26,.t 28]⟩,cg 30 24 true (.bin .leq (.t 29) (.c (I 0))),co 31 (.pick (.t 24) (.t 30) (.c (B false))),cm 2 31]) (.ret)))
def eB:FD:=⟨1,[[]],[.t 2],gx⟩
def qX:Cmd:=.seq (.ops [2,3,4] [bx 2 3 (.t 0),bx 3 3 (.t 1),al 4 [B false,.emp,I 0]]) (.seq (.seq (.ops [2,3,4,8] [la 5 3 2,la 6 3 3,ca 7 F.dyadic_Cmp [.t 5,.t 6],co 8 (.bin .geq (.t 7) (.c (I 0)))]) (.cond (.t 8) (.seq (.ops [4] [la 9 3 2,sr 3 (.t 4) (.t 9)]) (.ret)) (.skip))) (.seq (.ops [4] [la 10 3 3,sr 3 (.t 4) (.t 10)]) (.ret)))
def lK:FD:=⟨2,[[.o 0 [],.o 2 [],.o 0 []]],[.cell 4 3 true],qX⟩
def qY:Cmd:=.seq (.ops [2,3,4] [bx 2 3 (.t 0),bx 3 3 (.t 1),al 4 [B false,.emp,I 0]]) (.seq (.seq (.ops [2,3,4,8] [la 5 3 2,la 6 3 3,ca 7 F.dyadic_Cmp [.t 5,.t 6],co 8 (.bin .leq (.t 7) (.c (I 0)))]) (.cond (.t 8) (.seq (.ops [4] [la 9 3 2,sr 3 (.t 4) (.t 9)]) (.ret)) (.skip))) (.seq (.ops [4] [la 10 3 3,sr 3 (.t 4) (.t 10)]) (.ret)))
def lL:FD:=⟨2,[[.o 0 [],.o 2 [],.o 0 []]],[.cell 4 3 true],qY⟩
def cR:Cmd:=.seq (.ops [1,20,21,22,23] [b2 23 .lss 22 21]) (.seq (.cond (.t 23) (.skip) (.exit 0)) (.seq (.block 1 [1,20,21,22] (.seq (.ops [1,3,4,20,21,22] [cm 24 22,co 25 (.iadrS 4 (.t 20) (.t 22)),la 26 4 25,al 4 [.emp,B false,.emp,I 0],cm 3 24,sr 4 (.t 4) (.t 26)]) (.seq (.seq (.ops [1,3,4,20,21,22,45] [fa 27 0 4,ld 28 1 27,co 29 (.len false (.t 28)),fa 30 0 1,ld 31 1 30,b2 32 .neq 29 31,cm 33 32,cg 34 33 false (.fadr 1 (.t 4)),⟨(some 35),(some (33,false)),.load 3 true (.t 34)⟩,⟨(some 36),(some (33,false)),.call (.c (.fn F.dyadic_Valid [] [])) [.t 35]⟩,cg 37 33 false (.un .not (.t 36)),co 38 (.pick (.t 33) (.c (B true)) (.t 37)),cm 39 38,cg 40 39 false (.fadr 1 (.t 4)),cg 41 39 false (.fadr 1 (.t 40)),⟨(some 42),(some (39,false)),.load 1 false (.t 41)⟩,cg 43 39 false (.len false (.t 42)),cg 44 39 false (.bin .eql (.t 43) (.c (I 0))),co 45 (.pick (.t 39) (.c (B true)) (.t 44))]) (.cond (.t 45) (.seq (.ops [2] [co 2 (.mv (.c (B false)))]) (.ret)) (.skip))) (.seq (.seq (.ops [1,3,4,20,21,22,54] [fa 46 0 4,ld 47 1 46,ca 48 F.slices_ContainsFunc_int_int_ [.t 47,.c (.fn F.poly_Valid_1 [] [])],cm 49 48,cg 50 49 false (.fadr 0 (.t 4)),⟨(some 51),(some (49,false)),.load 1 false (.t 50)⟩,⟨(some 52),(some (49,false)),.call (.c (.fn F.poly_degree [] [])) [.t 51]⟩,cg 53 49 false (.bin .gtr (.t 52) (.c (I 32))),co 54 (.pick (.t 49) (.c (B true)) (.t 53))]) (.cond (.t 54) (.seq (.ops [2] [co 2 (.mv (.c (B false)))]) (.ret)) (.skip))) (.seq (.dops [1,20,21,22,69] [cm 55 3,co 56 (.bin .gtr (.t 55) (.c (I 0))),cm 57 56,cg 58 57 true (.fadr 1 (.t 1)),⟨(some 59),(some (57,true)),.load 1 false (.t 58)⟩,cg 60 57 true (.mv (.t 3)),cg 61 57 true (.bin .sub (.t 60) (.c (I 1))),cg 62 57 true (.iadrS 4 (.t 59) (.t 61)),cg 63 57 true (.fadr 0 (.t 62)),⟨(some 64),(some (57,true)),.load 1 false (.t 63)⟩,cg 65 57 true (.fadr 0 (.t 4)),⟨(some 66),(some (57,true)),.load 1 false (.t 65)⟩,⟨(some 67),(some (57,true)),.call (.c (.fn F.poly_order [] [])) [.t 64,.t 66]⟩,cg 68 57 true (.bin .geq (.t 67) (.c (I 0))),co 69 (.pick (.t 57) (.t 68) (.c (B false)))] []) (.cond (.t 69) (.seq (.ops [2] [co 2 (.mv (.c (B false)))]) (.ret)) (.skip))))))) (.ops [1,20,21,22] [co 70 (.bin .add (.t 22) (.c (I 1))),cm 22 70])))
def kE:Cmd:=.seq (.ops [1] [bx 1 2 (.t 0),co 2 (.mv (.c (B false)))]) (.seq (.seq (.ops [1,18] [fa 5 0 1,ld 6 1 5,co 7 (.bin .lss (.t 6) (.c (I 0))),cm 8 7,cg 9 8 false (.fadr 0 (.t 1)),⟨(some 10),(some (8,false)),.load 1 false (.t 9)⟩,cg 11 8 false (.bin .gtr (.t 10) (.c (I 8))),co 12 (.pick (.t 8) (.c (B true)) (.t 11)),cm 13 12,cg 14 13 false (.fadr 1 (.t 1)),⟨(some 15),(some (13,false)),.load 1 false (.t 14)⟩,cg 16 13 false (.len false (.t 15)),cg 17 13 false (.bin .gtr (.t 16) (.c (I 500))),co 18 (.pick (.t 13) (.c (B true)) (.t 17))]) (.cond (.t 18) (.seq (.ops [2] [co 2 (.mv (.c (B false)))]) (.ret)) (.skip))) (.seq (.seq (.ops [1,20,21,22] [fa 19 1 1,ld 20 1 19,co 21 (.len false (.t 20)),co 22 (.mv (.c (I 0)))]) (.block 0 [] (.loop [1,20,21,22] [1] cR))) (.seq (.ops [2] [co 2 (.mv (.c (B true)))]) (.ret))))
def hF:FD:=⟨1,[[]],[.t 2],kE⟩
def qZ:Cmd:=.seq (.ops [2,3,4] [bx 2 3 (.t 0),bx 3 3 (.t 1),al 4 [B false,.emp,I 0],co 5 (.mv (.c (I 0)))]) (.seq (.seq (.ops [2,3,4,13] [la 6 3 2,ca 7 F.dyadic_Valid [.t 6],co 8 (.un .not (.t 7)),cm 9 8,⟨(some 10),(some (9,false)),.load 3 true (.t 3)⟩,⟨(some 11),(some (9,false)),.call (.c (.fn F.dyadic_Valid [] [])) [.t 10]⟩,cg 12 9 false (.un .not (.t 11)),co 13 (.pick (.t 9) (.c (B true)) (.t 12))]) (.cond (.t 13) (.seq (.ops [4,5] [co 14 (.build [B false,.emp,I 0] []),sr 3 (.t 4) (.t 14),co 5 (.mv (.c (I 1)))]) (.ret)) (.skip))) (.seq (.ops [4,5] [la 15 3 2,la 16 3 3,ca 17 F.dyadic_sum [.t 15,.t 16],co 18 (.ext 0 (.t 17)),co 19 (.ext 1 (.t 17)),sr 3 (.t 4) (.t 18),cm 5 19]) (.ret)))
def mh:FD:=⟨2,[[.o 0 [],.o 2 [],.o 0 []],[]],[.cell 4 3 true,.t 5],qZ⟩
def n8:Cmd:=.seq (.ops [1,2] [bx 2 2 (.t 0),co 4 (.mv (.c (B false)))]) (.seq (.ops [4] [la 5 2 2,ca 6 F.poly_Valid [.t 5],cm 7 6,cg 8 7 true (.mv (.t 1)),cg 9 7 true (.len false (.t 8)),cg 10 7 true (.fadr 0 (.t 2)),⟨(some 11),(some (7,true)),.load 1 false (.t 10)⟩,cg 12 7 true (.bin .eql (.t 9) (.t 11)),co 13 (.pick (.t 7) (.t 12) (.c (B false))),cm 14 13,cg 15 14 true (.mv (.t 1)),⟨(some 16),(some (14,true)),.call (.c (.fn F.slices_ContainsFunc_api_Interval_api_Interval_ [] [])) [.t 15,.c (.fn F.bound_domain_1 [] [])]⟩,cg 17 14 true (.un .not (.t 16)),co 18 (.pick (.t 14) (.t 17) (.c (B false))),cm 4 18]) (.ret))
def jW:FD:=⟨2,[[]],[.t 4],n8⟩
def EB:Cmd:=.seq (.ops [2,3] [bx 2 3 (.t 0),bx 3 3 (.t 1),co 4 (.mv (.c (B false)))]) (.seq (.ops [4] [fa 5 0 2,ld 6 1 5,fa 7 0 3,ld 8 1 7,co 9 (.eqc false 0 (.t 6) (.t 8)),cm 10 9,cg 11 10 true (.fadr 2 (.t 2)),⟨(some 12),(some (10,true)),.load 1 false (.t 11)⟩,cg 13 10 true (.fadr 2 (.t 3)),⟨(some 14),(some (10,true)),.load 1 false (.t 13)⟩,cg 15 10 true (.bin .eql (.t 12) (.t 14)),co 16 (.pick (.t 10) (.t 15) (.c (B false))),cm 17 16,cg 18 17 true (.fadr 1 (.t 2)),⟨(some 19),(some (17,true)),.load 1 false (.t 18)⟩,cg 20 17 true (.len false (.t 19)),cg 21 17 true (.fadr 1 (.t 3)),⟨(some 22),(some (17,true)),.load 1 false (.t 21)⟩,cg 23 17 true (.len false (.t 22)),cg 24 17 true (.bin .eql (.t 20) (.t 23)),co 25 (.pick (.t 17) (.t 24) (.c (B false))),cm 26 25,cg 27 26 true (.fadr 1 (.t 2)),⟨(some 28),(some (26,true)),.load 1 false (.t 27)⟩,cg 29 26 true (.fadr 1 (.t 3)),⟨(some 30),(some (26,true)),.load 1 false (.t 29)⟩,⟨(some 31),(some (26,true)),.call (.c (.fn F.r02_compare [] [])) [.t 28,.t 30]⟩,cg 32 26 true (.bin .eql (.t 31) (.c (I 0))),co 33 (.pick (.t 26) (.t 32) (.c (B false))),cm 4 33]) (.ret))
def wg:FD:=⟨2,[[]],[.t 4],EB⟩
def pL:Cmd:=.seq (.seq (.ops [3,4,19] [cm 18 4,co 19 (.bin .gtr (.t 18) (.c (U 0)))]) (.cond (.t 19) (.skip) (.exit 0))) (.seq (.block 1 [3,4] (.ops [3,4] [cm 22 3,co 23 (.bin .add (.t 22) (.c (I 1))),cm 3 23])) (.ops [3,4] [cm 20 4,co 21 (.bin .shr (.t 20) (.c (W 1))),cm 4 21]))
def zL:Cmd:=.seq (.ops [0] [co 2 (.mv (.c (I 0)))]) (.seq (.seq (.ops [0,7] [cm 5 0,co 6 (.len false (.t 5)),co 7 (.bin .eql (.t 6) (.c (I 0)))]) (.cond (.t 7) (.seq (.ops [2] [co 2 (.mv (.c (I 0)))]) (.ret)) (.skip))) (.seq (.ops [0,3] [cm 8 0,co 9 (.len false (.t 8)),co 10 (.bin .sub (.t 9) (.c (I 1))),co 11 (.bin .mul (.c (I 32)) (.t 10)),cm 3 11]) (.seq (.seq (.ops [3,4] [cm 12 0,cm 13 0,co 14 (.len false (.t 13)),co 15 (.bin .sub (.t 14) (.c (I 1))),co 16 (.iadrS 1 (.t 12) (.t 15)),ld 17 1 16,cm 4 17]) (.block 0 [3] (.loop [3,4] [] pL))) (.seq (.ops [2] [cm 24 3,cm 2 24]) (.ret)))))
def s7:FD:=⟨1,[[]],[.t 2],zL⟩
def BJ:Cmd:=.seq (.ops [0] [co 2 (.mv (.c (.v (.pointer none))))]) (.seq (.ops [2] [cm 3 0,co 4 (.build [I 0,.emp] [(0,1,.t 3)]),co 5 (.build [I 0,.emp,I 0] [(0,2,.t 4)]),bx 6 3 (.t 5),cm 2 6]) (.ret))
def tZ:FD:=⟨1,[[]],[.t 2],BJ⟩
def fL:Cmd:=.seq (.ops [0,1,5] [bx 5 3 (.t 2)]) (.seq (.seq (.ops [0,1,5,14] [cm 10 0,nk 11 10,fa 12 2 11,ld 13 1 12,co 14 (.bin .neq (.t 13) (.c (I 0)))]) (.cond (.t 14) (.ret) (.skip))) (.seq (.ops [0,1,5,6,7] [cm 16 0,nk 17 16,fa 18 0 17,fa 19 1 18,ld 20 1 19,cm 21 1,ca 22 F.slices_BinarySearchFunc_api_Term_api_Term_Sint_ [.t 20,.t 21,.c (.fn F.poly_collector_add_1 [] [])],cm 15 22,co 23 (.ext 0 (.t 15)),co 24 (.ext 1 (.t 15)),cm 6 23,cm 7 24]) (.seq (.seq (.ops [0,1,5,6,26] [cm 25 7,co 26 (.un .not (.t 25))]) (.cond (.t 26) (.seq (.dops [] [cm 27 0,cm 28 0,nk 29 28,fa 30 0 29,fa 31 1 30,ld 32 1 31,cm 33 6,cm 34 1,⟨(some 35),none,.callC (.c (.fn F.slices_Clone_int_int_ [] [])) [.t 34]⟩,la 36 3 5,ca 37 F.poly_copied [.t 36],co 38 (.build [.emp,B false,.emp,I 0] [(0,1,.t 35),(1,3,.t 37)]),⟨(some 39),none,.buildSl 4 [.emp,B false,.emp,I 0] 1 [(0,.t 38)]⟩,ca 40 F.slices_Insert_api_Term_api_Term_ [.t 32,.t 33,.t 39],nk 41 27,fa 42 0 41,fa 43 1 42,sr 1 (.t 43) (.t 40)] [(1000013,33),(5,8),(8,9),(5,10),(5,12)]) (.ret)) (.skip))) (.seq (.dops [0,6,8,9] [cm 45 0,nk 46 45,fa 47 0 46,fa 48 1 47,ld 49 1 48,cm 50 6,co 51 (.iadrS 4 (.t 49) (.t 50)),fa 52 1 51,la 53 3 52,la 54 3 5,ca 55 F.dyadic_Add [.t 53,.t 54],cm 44 55,co 56 (.ext 0 (.t 44)),co 57 (.ext 1 (.t 44)),al 8 [B false,.emp,I 0],sr 3 (.t 8) (.t 56),cm 9 57] [(4,14),(8,14),(9,14),(10,14)]) (.block 0 [] (.seq (.ops [0,6,8,67] [cm 68 9,co 69 (.bin .neq (.t 68) (.c (I 0))),cm 67 69]) (.cond (.t 67) (.ops [] [cm 70 0,nk 71 70,fa 72 2 71,sr 1 (.t 72) (.c (I 9))]) (.seq (.ops [0,6,8,73] [fa 74 1 8,ld 75 1 74,co 76 (.len false (.t 75)),co 77 (.bin .eql (.t 76) (.c (I 0))),cm 73 77]) (.cond (.t 73) (.ops [] [cm 78 0,cm 79 0,nk 80 79,fa 81 0 80,fa 82 1 81,⟨(some 83),none,.take (.t 82)⟩,cm 84 6,cm 85 6,co 86 (.bin .add (.t 85) (.c (I 1))),ca 87 F.slices_Delete_api_Term_api_Term_ [.t 83,.t 84,.t 86],nk 88 78,fa 89 0 88,fa 90 1 89,sr 1 (.t 90) (.t 87)]) (.dops [] [cm 58 0,nk 59 58,fa 60 0 59,fa 61 1 60,ld 62 1 61,cm 63 6,la 64 3 8,co 65 (.iadrS 4 (.t 62) (.t 63)),fa 66 1 65,sr 3 (.t 66) (.t 64)] []))))))))))
def dP:FD:=⟨3,[],[],fL⟩
def fq:Cmd:=.seq (.ops [0,2] [al 2 [I 0,.emp],co 3 (.mv (.c (I 0)))]) (.seq (.block 0 [0,2] (.seq (.ops [0,2,4] [cm 5 0,nk 6 5,fa 7 2 6,ld 8 1 7,co 9 (.bin .neq (.t 8) (.c (I 0))),cm 4 9]) (.cond (.t 4) (.seq (.dops [2,3] [co 10 (.build [I 0,.emp] []),cm 11 0,nk 12 11,fa 13 2 12,ld 14 1 13,sr 2 (.t 2) (.t 10),cm 3 14] [(4,5)]) (.ret)) (.seq (.ops [0,2,15] [cm 16 0,nk 17 16,fa 18 0 17,fa 19 1 18,ld 20 1 19,co 21 (.len false (.t 20)),co 22 (.bin .gtr (.t 21) (.c (I 500))),cm 15 22]) (.cond (.t 15) (.seq (.ops [2,3] [co 23 (.build [I 0,.emp] []),sr 2 (.t 2) (.t 23),co 3 (.mv (.c (I 5)))]) (.ret)) (.skip)))))) (.seq (.ops [2,3] [cm 24 0,nk 25 24,fa 26 0 25,la 27 2 26,sr 2 (.t 2) (.t 27),co 3 (.mv (.c (I 0)))]) (.ret)))
def dA:FD:=⟨1,[[.o 0 [],.o 5 [.o 2 [],.o 0 [],.o 2 [],.o 0 []]],[]],[.cell 2 2 true,.t 3],fq⟩
def eL:Cmd:=.seq (.ops [5,6,7,8] [b2 8 .lss 7 6]) (.seq (.cond (.t 8) (.skip) (.exit 0)) (.seq (.block 1 [5,6,7] (.seq (.ops [4,5,6,7] [co 9 (.iadrS 7 (.t 5) (.t 7)),la 10 7 9,al 4 [B false,.emp,I 0,B false,.emp,I 0,B false],sr 7 (.t 4) (.t 10)]) (.seq (.ops [5,6,7,17] [fa 11 6 4,ld 12 1 11,cm 13 12,⟨(some 14),(some (13,false)),.load 7 true (.t 4)⟩,⟨(some 15),(some (13,false)),.call (.c (.fn F.interval_Valid [] [])) [.t 14]⟩,cg 16 13 false (.un .not (.t 15)),co 17 (.pick (.t 13) (.c (B true)) (.t 16))]) (.cond (.t 17) (.seq (.ops [2] [co 2 (.mv (.c (B false)))]) (.ret)) (.skip))))) (.ops [5,6,7] [co 18 (.bin .add (.t 7) (.c (I 1))),cm 7 18])))
def pY:Cmd:=.seq (.ops [0] [co 2 (.mv (.c (B false)))]) (.seq (.seq (.ops [5,6,7] [cm 5 0,co 6 (.len false (.t 5)),co 7 (.mv (.c (I 0)))]) (.block 0 [] (.loop [5,6,7] [] eL))) (.seq (.ops [2] [co 2 (.mv (.c (B true)))]) (.ret)))
def kr:FD:=⟨1,[[]],[.t 2],pY⟩
def lM:Cmd:=.seq (.ops [0] [co 2 (.mv (.c (B false)))]) (.seq (.ops [2] [cm 3 0,co 4 (.bin .geq (.t 3) (.c (I 8))),cm 5 4,cg 6 5 true (.mv (.t 0)),cg 7 5 true (.bin .leq (.t 6) (.c (I 512))),co 8 (.pick (.t 5) (.t 7) (.c (B false))),cm 2 8]) (.ret))
def gT:FD:=⟨1,[[]],[.t 2],lM⟩
def BK:Cmd:=.seq (.ops [1,2,4] [bx 2 3 (.t 0),al 4 [B false,.emp,I 0],co 5 (.mv (.c (I 0)))]) (.seq (.ops [4,5] [la 6 3 2,cm 7 1,ca 8 F.round_round [.t 6,.t 7,.c (B false)],co 9 (.ext 0 (.t 8)),co 10 (.ext 1 (.t 8)),sr 3 (.t 4) (.t 9),cm 5 10]) (.ret))
def ub:FD:=⟨2,[[.o 0 [],.o 2 [],.o 0 []],[]],[.cell 4 3 true,.t 5],BK⟩
def Hs:Cmd:=.seq (.ops [1,2,4] [bx 2 3 (.t 0),al 4 [B false,.emp,I 0],co 5 (.mv (.c (I 0)))]) (.seq (.ops [4,5] [la 6 3 2,cm 7 1,ca 8 F.round_round [.t 6,.t 7,.c (B true)],co 9 (.ext 0 (.t 8)),co 10 (.ext 1 (.t 8)),sr 3 (.t 4) (.t 9),cm 5 10]) (.ret))
def xO:FD:=⟨2,[[.o 0 [],.o 2 [],.o 0 []],[]],[.cell 4 3 true,.t 5],Hs⟩
def mU:Cmd:=.seq (.ops [1,3,4,6,8] [bx 4 3 (.t 0),bx 6 3 (.t 2),al 8 [B false,.emp,I 0,B false,.emp,I 0,B false]]) (.seq (.seq (.ops [4,6,8,14] [cm 9 1,co 10 (.bin .neq (.t 9) (.c (I 0))),cm 11 10,cg 12 11 false (.mv (.t 3)),cg 13 11 false (.bin .neq (.t 12) (.c (I 0))),co 14 (.pick (.t 11) (.c (B true)) (.t 13))]) (.cond (.t 14) (.seq (.ops [8] [ca 15 F.interval_Whole [],sr 7 (.t 8) (.t 15)]) (.ret)) (.skip))) (.seq (.ops [8] [la 16 3 4,la 17 3 6,co 18 (.build [B false,.emp,I 0,B false,.emp,I 0,B false] [(0,3,.t 16),(3,3,.t 17)]),sr 7 (.t 8) (.t 18)]) (.ret)))
def jg:FD:=⟨4,[[.o 0 [],.o 2 [],.o 0 [],.o 0 [],.o 2 [],.o 0 [],.o 0 []]],[.cell 8 7 true],mU⟩
def jh:Cmd:=.seq (.ops [0,1,7,8,9] [b2 9 .lss 8 7]) (.seq (.cond (.t 9) (.skip) (.exit 0)) (.seq (.block 1 [0,1,7,8] (.seq (.ops [0,1,5,7,8] [cm 10 8,cm 5 10]) (.seq (.ops [0,1,5,7,8,16] [cm 11 1,cm 12 0,cm 13 5,co 14 (.iadrS 7 (.t 12) (.t 13)),la 15 7 14,⟨(some 16),none,.call (.t 11) [.t 15]⟩]) (.cond (.t 16) (.seq (.ops [4] [cm 17 5,cm 4 17]) (.ret)) (.skip))))) (.ops [0,1,7,8] [co 18 (.bin .add (.t 8) (.c (I 1))),cm 8 18])))
def jX:Cmd:=.seq (.ops [0,1] [co 4 (.mv (.c (I 0)))]) (.seq (.seq (.ops [0,1,7,8] [cm 6 0,co 7 (.len false (.t 6)),co 8 (.mv (.c (I 0)))]) (.block 0 [] (.loop [0,1,7,8] [] jh))) (.seq (.ops [4] [co 4 (.mv (.c (I (-1))))]) (.ret)))
def eu:FD:=⟨2,[[]],[.t 4],jX⟩
def fX:Cmd:=.seq (.seq (.ops [3,5,6,29] [cm 25 6,fa 26 0 3,ld 27 1 26,co 28 (.len false (.t 27)),b2 29 .lss 25 28]) (.cond (.t 29) (.skip) (.exit 0))) (.seq (.block 1 [3,5,6] (.seq (.seq (.ops [3,5,6,45] [fa 32 0 3,ld 33 1 32,cm 34 6,co 35 (.iadrS 1 (.t 33) (.t 34)),ld 36 1 35,co 37 (.bin .lss (.t 36) (.c (I 0))),cm 38 37,cg 39 38 false (.fadr 0 (.t 3)),⟨(some 40),(some (38,false)),.load 1 false (.t 39)⟩,cg 41 38 false (.mv (.t 6)),cg 42 38 false (.iadrS 1 (.t 40) (.t 41)),⟨(some 43),(some (38,false)),.load 1 false (.t 42)⟩,cg 44 38 false (.bin .gtr (.t 43) (.c (I 32))),co 45 (.pick (.t 38) (.c (B true)) (.t 44))]) (.cond (.t 45) (.seq (.ops [4] [co 4 (.mv (.c (B false)))]) (.ret)) (.skip))) (.ops [3,5,6] [cm 46 5,fa 47 0 3,ld 48 1 47,cm 49 6,co 50 (.iadrS 1 (.t 48) (.t 49)),ld 51 1 50,b2 52 .add 46 51,cm 5 52]))) (.ops [3,5,6] [cm 30 6,co 31 (.bin .add (.t 30) (.c (I 1))),cm 6 31]))
def n9:Cmd:=.seq (.ops [0,3] [bx 3 4 (.t 1),co 4 (.mv (.c (B false)))]) (.seq (.seq (.ops [3,24] [fa 7 0 3,ld 8 1 7,co 9 (.len false (.t 8)),cm 10 0,b2 11 .neq 9 10,cm 12 11,cg 13 12 false (.fadr 1 (.t 3)),⟨(some 14),(some (12,false)),.load 3 true (.t 13)⟩,⟨(some 15),(some (12,false)),.call (.c (.fn F.r02_Valid [] [])) [.t 14]⟩,cg 16 12 false (.un .not (.t 15)),co 17 (.pick (.t 12) (.c (B true)) (.t 16)),cm 18 17,cg 19 18 false (.fadr 1 (.t 3)),cg 20 18 false (.fadr 1 (.t 19)),⟨(some 21),(some (18,false)),.load 1 false (.t 20)⟩,cg 22 18 false (.len false (.t 21)),cg 23 18 false (.bin .eql (.t 22) (.c (I 0))),co 24 (.pick (.t 18) (.c (B true)) (.t 23))]) (.cond (.t 24) (.seq (.ops [4] [co 4 (.mv (.c (B false)))]) (.ret)) (.skip))) (.seq (.ops [3,5] [co 5 (.mv (.c (I 0)))]) (.seq (.seq (.ops [3,5,6] [co 6 (.mv (.c (I 0)))]) (.block 0 [5] (.loop [3,5,6] [3] fX))) (.seq (.ops [4] [cm 53 5,co 54 (.bin .leq (.t 53) (.c (I 32))),cm 4 54]) (.ret)))))
def kf:FD:=⟨2,[[]],[.t 4],n9⟩
def gy:Cmd:=.seq (.seq (.ops [0,1,7,21] [cm 18 7,cm 19 0,co 20 (.len false (.t 19)),b2 21 .lss 18 20]) (.cond (.t 21) (.skip) (.exit 0))) (.seq (.block 1 [0,1,7] (.seq (.seq (.dops [0,1,7,32] [cm 24 0,cm 25 7,co 26 (.iadrS 1 (.t 24) (.t 25)),ld 27 1 26,cm 28 1,cm 29 7,co 30 (.iadrS 1 (.t 28) (.t 29)),ld 31 1 30,b2 32 .gtr 27 31] []) (.cond (.t 32) (.seq (.ops [4] [co 4 (.mv (.c (I (-1))))]) (.ret)) (.skip))) (.seq (.dops [0,1,7,41] [cm 33 0,cm 34 7,co 35 (.iadrS 1 (.t 33) (.t 34)),ld 36 1 35,cm 37 1,cm 38 7,co 39 (.iadrS 1 (.t 37) (.t 38)),ld 40 1 39,b2 41 .lss 36 40] []) (.cond (.t 41) (.seq (.ops [4] [co 4 (.mv (.c (I 1)))]) (.ret)) (.skip))))) (.ops [0,1,7] [cm 22 7,co 23 (.bin .add (.t 22) (.c (I 1))),cm 7 23]))
def mj:Cmd:=.seq (.ops [0,1] [co 4 (.mv (.c (I 0)))]) (.seq (.ops [0,1,5,6] [cm 8 0,ca 9 F.r23_sum [.t 8],cm 10 1,ca 11 F.r23_sum [.t 10],cm 5 9,cm 6 11]) (.seq (.seq (.ops [0,1,5,6,14] [cm 12 5,cm 13 6,b2 14 .lss 12 13]) (.cond (.t 14) (.seq (.ops [4] [co 4 (.mv (.c (I (-1))))]) (.ret)) (.skip))) (.seq (.seq (.ops [0,1,17] [cm 15 5,cm 16 6,b2 17 .gtr 15 16]) (.cond (.t 17) (.seq (.ops [4] [co 4 (.mv (.c (I 1)))]) (.ret)) (.skip))) (.seq (.seq (.ops [0,1,7] [co 7 (.mv (.c (I 0)))]) (.block 0 [] (.loop [0,1,7] [] gy))) (.seq (.ops [4] [co 4 (.mv (.c (I 0)))]) (.ret))))))
def iQ:FD:=⟨2,[[]],[.t 4],mj⟩
def xk:Cmd:=.seq (.ops [2,3,4,6] [bx 3 3 (.t 0),bx 4 3 (.t 1),al 6 [B false,.emp,I 0],co 7 (.mv (.c (I 0)))]) (.seq (.ops [6,7] [la 8 3 3,la 9 3 4,cm 10 2,ca 11 F.round_add [.t 8,.t 9,.t 10,.c (B false)],co 12 (.ext 0 (.t 11)),co 13 (.ext 1 (.t 11)),sr 3 (.t 6) (.t 12),cm 7 13]) (.ret))
def pZ:FD:=⟨3,[[.o 0 [],.o 2 [],.o 0 []],[]],[.cell 6 3 true,.t 7],xk⟩
def Az:Cmd:=.seq (.ops [2,3,4,6] [bx 3 3 (.t 0),bx 4 3 (.t 1),al 6 [B false,.emp,I 0],co 7 (.mv (.c (I 0)))]) (.seq (.ops [6,7] [la 8 3 3,la 9 3 4,cm 10 2,ca 11 F.round_add [.t 8,.t 9,.t 10,.c (B true)],co 12 (.ext 0 (.t 11)),co 13 (.ext 1 (.t 11)),sr 3 (.t 6) (.t 12),cm 7 13]) (.ret))
def sf:FD:=⟨3,[[.o 0 [],.o 2 [],.o 0 []],[]],[.cell 6 3 true,.t 7],Az⟩
def gM:Cmd:=.seq (.ops [2,3,4] [bx 2 3 (.t 0),bx 3 3 (.t 1),al 4 [B false,.emp,I 0],co 5 (.mv (.c (I 0)))]) (.seq (.seq (.ops [2,3,4,15] [la 8 3 2,ca 9 F.dyadic_Valid [.t 8],co 10 (.un .not (.t 9)),cm 11 10,⟨(some 12),(some (11,false)),.load 3 true (.t 3)⟩,⟨(some 13),(some (11,false)),.call (.c (.fn F.dyadic_Valid [] [])) [.t 12]⟩,cg 14 11 false (.un .not (.t 13)),co 15 (.pick (.t 11) (.c (B true)) (.t 14))]) (.cond (.t 15) (.seq (.ops [4,5] [co 16 (.build [B false,.emp,I 0] []),sr 3 (.t 4) (.t 16),co 5 (.mv (.c (I 1)))]) (.ret)) (.skip))) (.seq (.seq (.ops [2,3,4,26] [fa 17 1 2,ld 18 1 17,co 19 (.len false (.t 18)),co 20 (.bin .eql (.t 19) (.c (I 0))),cm 21 20,cg 22 21 false (.fadr 1 (.t 3)),⟨(some 23),(some (21,false)),.load 1 false (.t 22)⟩,cg 24 21 false (.len false (.t 23)),cg 25 21 false (.bin .eql (.t 24) (.c (I 0))),co 26 (.pick (.t 21) (.c (B true)) (.t 25))]) (.cond (.t 26) (.seq (.ops [4,5] [co 27 (.build [B false,.emp,I 0] []),sr 3 (.t 4) (.t 27),co 5 (.mv (.c (I 0)))]) (.ret)) (.skip))) (.seq (.seq (.dops [2,3,4,36] [fa 28 1 2,ld 29 1 28,ca 30 F.dyadic_size [.t 29],fa 31 1 3,ld 32 1 31,ca 33 F.dyadic_size [.t 32],b2 34 .add 30 33,co 35 (.bin .sub (.t 34) (.c (I 1))),co 36 (.bin .gtr (.t 35) (.c (I 4096)))] [(2,4)]) (.cond (.t 36) (.seq (.ops [4,5] [co 37 (.build [B false,.emp,I 0] []),sr 3 (.t 4) (.t 37),co 5 (.mv (.c (I 9)))]) (.ret)) (.skip))) (.seq (.ops [2,3,4,6] [fa 39 1 2,ld 40 1 39,fa 41 1 3,ld 42 1 41,ca 43 F.natural_Mul [.t 40,.t 42],cm 38 43,co 44 (.ext 0 (.t 38)),co 45 (.ext 1 (.t 38)),cm 6 44,cm 7 45]) (.seq (.ops [4,5] [fa 46 0 2,ld 47 1 46,fa 48 0 3,ld 49 1 48,co 50 (.eqc true 0 (.t 47) (.t 49)),cm 51 6,fa 52 2 2,ld 53 1 52,fa 54 2 3,ld 55 1 54,b2 56 .add 53 55,ca 57 F.dyadic_canonical [.t 50,.t 51,.t 56],ca 58 F.dyadic_checked [.t 57],co 59 (.ext 0 (.t 58)),co 60 (.ext 1 (.t 58)),sr 3 (.t 4) (.t 59),cm 5 60]) (.ret))))))
def eW:FD:=⟨2,[[.o 0 [],.o 2 [],.o 0 []],[]],[.cell 4 3 true,.t 5],gM⟩
def wh:Cmd:=.seq (.ops [0,2] [al 2 [B false,.emp,I 0]]) (.seq (.ops [0,2,3] [cm 4 0,co 5 (.cv .u64 (.t 4)),cm 3 5]) (.seq (.seq (.ops [0,2,3,7] [cm 6 0,co 7 (.bin .lss (.t 6) (.c (I 0)))]) (.cond (.t 7) (.ops [0,2,3] [cm 8 3,co 9 (.un .neg (.t 8)),cm 3 9]) (.skip))) (.seq (.ops [2] [cm 10 0,co 11 (.bin .lss (.t 10) (.c (I 0))),cm 12 3,co 13 (.cv .u32 (.t 12)),cm 14 3,co 15 (.bin .shr (.t 14) (.c (W 32))),co 16 (.cv .u32 (.t 15)),⟨(some 17),none,.buildSl 1 [U 0] 2 [(0,.t 13),(1,.t 16)]⟩,ca 18 F.dyadic_canonical [.t 11,.t 17,.c (I 0)],sr 3 (.t 2) (.t 18)]) (.ret))))
def pM:FD:=⟨1,[[.o 0 [],.o 2 [],.o 0 []]],[.cell 2 3 true],wh⟩
def oP:Cmd:=.seq (.ops [0] [co 2 (.mv (.c .emp))]) (.seq (.seq (.ops [0,4] [cm 3 0,co 4 (.nilq false (.t 3))]) (.cond (.t 4) (.seq (.ops [2] [co 2 (.mv (.c .emp))]) (.ret)) (.skip))) (.seq (.ops [2] [⟨(some 5),none,.buildSl 1 [I 0] 0 []⟩,cm 6 0,⟨(some 7),none,.app 1 8 (.t 5) (.t 6)⟩,cm 2 7]) (.ret)))
def ji:FD:=⟨1,[[]],[.t 2],oP⟩
def sg:Cmd:=.seq (.ops [1,2] [bx 1 7 (.t 0),al 2 [B false,.emp,I 0,B false,.emp,I 0,B false]]) (.seq (.seq (.ops [1,2,6] [la 3 7 1,⟨(some 4),none,.buildSl 7 [B false,.emp,I 0,B false,.emp,I 0,B false] 1 [(0,.t 3)]⟩,ca 5 F.interval_known [.t 4],co 6 (.un .not (.t 5))]) (.cond (.t 6) (.seq (.ops [2] [ca 7 F.interval_Whole [],sr 7 (.t 2) (.t 7)]) (.ret)) (.skip))) (.seq (.dops [2] [fa 8 3 1,la 9 3 8,ca 10 F.dyadic_Neg [.t 9],fa 11 0 1,la 12 3 11,ca 13 F.dyadic_Neg [.t 12],co 14 (.build [B false,.emp,I 0,B false,.emp,I 0,B false] [(0,3,.t 10),(3,3,.t 13)]),sr 7 (.t 2) (.t 14)] [(2,4)]) (.ret)))
def mV:FD:=⟨1,[[.o 0 [],.o 2 [],.o 0 [],.o 0 [],.o 2 [],.o 0 [],.o 0 []]],[.cell 2 7 true],sg⟩
def bk:Cmd:=.seq (.ops [2,3,4,10,12,40,41,42] [co 42 (.bin .lss (.t 41) (.c (I 4)))]) (.seq (.cond (.t 42) (.skip) (.exit 0)) (.seq (.block 1 [2,3,4,10,12,40,41] (.seq (.ops [2,3,4,10,12,13,14,40,41] [cm 43 41,co 44 (.idxA 4 6 true (.t 40) (.t 41)),al 14 [B false,.emp,I 0,B false,.emp,I 0],cm 13 43,sr 6 (.t 14) (.t 44)]) (.seq (.ops [2,3,4,10,12,13,14,15,16,40,41] [cm 46 3,co 47 (.iadrA 2 3 (.t 14) (.c (I 0))),la 48 3 47,co 49 (.iadrA 2 3 (.t 14) (.c (I 1))),la 50 3 49,cm 51 2,⟨(some 52),none,.call (.t 46) [.t 48,.t 50,.t 51]⟩,cm 45 52,co 53 (.ext 0 (.t 45)),co 54 (.ext 1 (.t 45)),al 15 [B false,.emp,I 0],sr 3 (.t 15) (.t 53),cm 16 54]) (.seq (.ops [2,3,4,10,12,13,15,16,17,18,40,41] [cm 56 4,co 57 (.iadrA 2 3 (.t 14) (.c (I 0))),la 58 3 57,co 59 (.iadrA 2 3 (.t 14) (.c (I 1))),la 60 3 59,cm 61 2,⟨(some 62),none,.call (.t 56) [.t 58,.t 60,.t 61]⟩,cm 55 62,co 63 (.ext 0 (.t 55)),co 64 (.ext 1 (.t 55)),al 17 [B false,.emp,I 0],sr 3 (.t 17) (.t 63),cm 18 64]) (.seq (.seq (.ops [2,3,4,10,12,13,15,17,40,41,70] [cm 65 16,co 66 (.bin .neq (.t 65) (.c (I 0))),cm 67 66,cg 68 67 false (.mv (.t 18)),cg 69 67 false (.bin .neq (.t 68) (.c (I 0))),co 70 (.pick (.t 67) (.c (B true)) (.t 69))]) (.cond (.t 70) (.seq (.ops [10] [ca 71 F.interval_Whole [],sr 7 (.t 10) (.t 71)]) (.ret)) (.skip))) (.seq (.seq (.ops [2,3,4,10,12,13,15,17,40,41,80] [cm 72 13,co 73 (.bin .eql (.t 72) (.c (I 0))),cm 74 73,⟨(some 75),(some (74,false)),.load 3 true (.t 15)⟩,cg 76 74 false (.fadr 0 (.t 12)),⟨(some 77),(some (74,false)),.load 3 true (.t 76)⟩,⟨(some 78),(some (74,false)),.call (.c (.fn F.dyadic_Cmp [] [])) [.t 75,.t 77]⟩,cg 79 74 false (.bin .lss (.t 78) (.c (I 0))),co 80 (.pick (.t 74) (.c (B true)) (.t 79))]) (.cond (.t 80) (.ops [2,3,4,10,12,13,17,40,41] [la 81 3 15,fa 82 0 12,sr 3 (.t 82) (.t 81)]) (.skip))) (.seq (.ops [2,3,4,10,12,17,40,41,91] [cm 83 13,co 84 (.bin .eql (.t 83) (.c (I 0))),cm 85 84,⟨(some 86),(some (85,false)),.load 3 true (.t 17)⟩,cg 87 85 false (.fadr 3 (.t 12)),⟨(some 88),(some (85,false)),.load 3 true (.t 87)⟩,⟨(some 89),(some (85,false)),.call (.c (.fn F.dyadic_Cmp [] [])) [.t 86,.t 88]⟩,cg 90 85 false (.bin .gtr (.t 89) (.c (I 0))),co 91 (.pick (.t 85) (.c (B true)) (.t 90))]) (.cond (.t 91) (.ops [2,3,4,10,12,40,41] [la 92 3 17,fa 93 3 12,sr 3 (.t 93) (.t 92)]) (.skip))))))))) (.ops [2,3,4,10,12,40,41] [co 94 (.bin .add (.t 41) (.c (I 1))),cm 41 94])))
def xn:Cmd:=.seq (.ops [2,3,4,5,6,10] [bx 5 7 (.t 0),bx 6 7 (.t 1),al 10 [B false,.emp,I 0,B false,.emp,I 0,B false]]) (.seq (.ops [2,3,4,10,11] [fa 19 0 5,la 20 3 19,fa 21 0 6,la 22 3 21,co 23 (.build [B false,.emp,I 0,B false,.emp,I 0] [(0,3,.t 20),(3,3,.t 22)]),fa 24 0 5,la 25 3 24,fa 26 3 6,la 27 3 26,co 28 (.build [B false,.emp,I 0,B false,.emp,I 0] [(0,3,.t 25),(3,3,.t 27)]),fa 29 3 5,la 30 3 29,fa 31 0 6,la 32 3 31,co 33 (.build [B false,.emp,I 0,B false,.emp,I 0] [(0,3,.t 30),(3,3,.t 32)]),fa 34 3 5,la 35 3 34,fa 36 3 6,la 37 3 36,co 38 (.build [B false,.emp,I 0,B false,.emp,I 0] [(0,3,.t 35),(3,3,.t 37)]),co 39 (.build [B false,.emp,I 0,B false,.emp,I 0,B false,.emp,I 0,B false,.emp,I 0,B false,.emp,I 0,B false,.emp,I 0,B false,.emp,I 0,B false,.emp,I 0] [(0,6,.t 23),(6,6,.t 28),(12,6,.t 33),(18,6,.t 38)]),al 11 [B false,.emp,I 0,B false,.emp,I 0,B false,.emp,I 0,B false,.emp,I 0,B false,.emp,I 0,B false,.emp,I 0,B false,.emp,I 0,B false,.emp,I 0],sr 24 (.t 11) (.t 39)]) (.seq (.ops [2,3,4,10,11,12] [al 12 [B false,.emp,I 0,B false,.emp,I 0,B false]]) (.seq (.seq (.ops [2,3,4,10,12,40,41] [la 40 24 11,co 41 (.mv (.c (I 0)))]) (.block 0 [10,12] (.loop [2,3,4,10,12,40,41] [10,12] bk))) (.seq (.ops [10] [la 95 7 12,sr 7 (.t 10) (.t 95)]) (.ret)))))
def p7:FD:=⟨5,[[.o 0 [],.o 2 [],.o 0 [],.o 0 [],.o 2 [],.o 0 [],.o 0 []]],[.cell 10 7 true],xn⟩
def xp:Cmd:=.seq (.ops [2,3,4,6] [bx 3 3 (.t 0),bx 4 3 (.t 1),al 6 [B false,.emp,I 0],co 7 (.mv (.c (I 0)))]) (.seq (.ops [6,7] [la 8 3 3,la 9 3 4,cm 10 2,ca 11 F.round_mul [.t 8,.t 9,.t 10,.c (B false)],co 12 (.ext 0 (.t 11)),co 13 (.ext 1 (.t 11)),sr 3 (.t 6) (.t 12),cm 7 13]) (.ret))
def p8:FD:=⟨3,[[.o 0 [],.o 2 [],.o 0 []],[]],[.cell 6 3 true,.t 7],xp⟩
def AA:Cmd:=.seq (.ops [2,3,4,6] [bx 3 3 (.t 0),bx 4 3 (.t 1),al 6 [B false,.emp,I 0],co 7 (.mv (.c (I 0)))]) (.seq (.ops [6,7] [la 8 3 3,la 9 3 4,cm 10 2,ca 11 F.round_mul [.t 8,.t 9,.t 10,.c (B true)],co 12 (.ext 0 (.t 11)),co 13 (.ext 1 (.t 11)),sr 3 (.t 6) (.t 12),cm 7 13]) (.ret))
def si:FD:=⟨3,[[.o 0 [],.o 2 [],.o 0 []],[]],[.cell 6 3 true,.t 7],AA⟩
def Zg:Cmd:=.seq (.ops [0,2] [al 2 [B false,.emp,I 0]]) (.seq (.ops [0,2,3] [cm 4 0,co 5 (.cv .u64 (.t 4)),cm 3 5]) (.seq (.seq (.ops [0,2,3,7] [cm 6 0,co 7 (.bin .lss (.t 6) (.c (I 0)))]) (.cond (.t 7) (.ops [0,2,3] [cm 8 3,co 9 (.bin .sub (.c (W 0)) (.t 8)),cm 3 9]) (.skip))) (.seq (.ops [2] [cm 10 0,co 11 (.bin .lss (.t 10) (.c (I 0))),cm 12 3,co 13 (.bin .and (.t 12) (.c (W 4294967295))),co 14 (.cv .u32 (.t 13)),cm 15 3,co 16 (.bin .shr (.t 15) (.c (W 32))),co 17 (.cv .u32 (.t 16)),⟨(some 18),none,.buildSl 1 [U 0] 2 [(0,.t 14),(1,.t 17)]⟩,ca 19 F.r02_Of [.t 11,.t 18,.c (I 0)],sr 3 (.t 2) (.t 19)]) (.ret))))
def WD:FD:=⟨1,[[.o 0 [],.o 2 [],.o 0 []]],[.cell 2 3 true],Zg⟩
def fg:Cmd:=.seq (.ops [1,2,3,6] [bx 3 7 (.t 0),al 6 [B false,.emp,I 0,B false,.emp,I 0,B false]]) (.seq (.seq (.ops [1,2,3,6,27] [la 11 7 3,⟨(some 12),none,.buildSl 7 [B false,.emp,I 0,B false,.emp,I 0,B false] 1 [(0,.t 11)]⟩,ca 13 F.interval_known [.t 12],co 14 (.un .not (.t 13)),cm 15 14,cg 16 15 false (.mv (.t 2)),⟨(some 17),(some (15,false)),.call (.c (.fn F.interval_permitted [] [])) [.t 16]⟩,cg 18 15 false (.un .not (.t 17)),co 19 (.pick (.t 15) (.c (B true)) (.t 18)),cm 20 19,cg 21 20 false (.mv (.t 1)),cg 22 20 false (.bin .lss (.t 21) (.c (I 0))),co 23 (.pick (.t 20) (.c (B true)) (.t 22)),cm 24 23,cg 25 24 false (.mv (.t 1)),cg 26 24 false (.bin .gtr (.t 25) (.c (I 16))),co 27 (.pick (.t 24) (.c (B true)) (.t 26))]) (.cond (.t 27) (.seq (.ops [6] [ca 28 F.interval_Whole [],sr 7 (.t 6) (.t 28)]) (.ret)) (.skip))) (.seq (.seq (.ops [1,2,3,6,30] [cm 29 1,co 30 (.bin .eql (.t 29) (.c (I 0)))]) (.cond (.t 30) (.seq (.ops [6] [ca 31 F.dyadic_Int [.c (I 1)],ca 32 F.interval_Point [.t 31],sr 7 (.t 6) (.t 32)]) (.ret)) (.skip))) (.seq (.seq (.ops [1,2,3,6,35] [cm 33 1,co 34 (.bin .rem (.t 33) (.c (I 2))),co 35 (.bin .eql (.t 34) (.c (I 0)))]) (.cond (.t 35) (.ops [1,2,3,6] [la 36 7 3,ca 37 F.interval_Abs [.t 36],sr 7 (.t 3) (.t 37)]) (.skip))) (.seq (.ops [1,2,3,6,7,8] [fa 39 0 3,la 40 3 39,cm 41 1,cm 42 2,ca 43 F.interval_end [.t 40,.t 41,.t 42,.c (B false)],cm 38 43,co 44 (.ext 0 (.t 38)),co 45 (.ext 1 (.t 38)),al 7 [B false,.emp,I 0],sr 3 (.t 7) (.t 44),cm 8 45]) (.seq (.ops [6,7,8,9,10] [fa 47 3 3,la 48 3 47,cm 49 1,cm 50 2,ca 51 F.interval_end [.t 48,.t 49,.t 50,.c (B true)],cm 46 51,co 52 (.ext 0 (.t 46)),co 53 (.ext 1 (.t 46)),al 9 [B false,.emp,I 0],sr 3 (.t 9) (.t 52),cm 10 53]) (.seq (.ops [6] [la 54 3 7,cm 55 8,la 56 3 9,cm 57 10,ca 58 F.interval_made [.t 54,.t 55,.t 56,.t 57],sr 7 (.t 6) (.t 58)]) (.ret)))))))
def dD:FD:=⟨3,[[.o 0 [],.o 2 [],.o 0 [],.o 0 [],.o 2 [],.o 0 [],.o 0 []]],[.cell 6 7 true],fg⟩
def pN:Cmd:=.seq (.ops [1] [bx 1 2 (.t 0),co 2 (.mv (.c (I 0)))]) (.seq (.seq (.ops [1,11] [la 3 2 1,ca 4 F.poly_Valid [.t 3],co 5 (.un .not (.t 4)),cm 6 5,cg 7 6 false (.fadr 1 (.t 1)),⟨(some 8),(some (6,false)),.load 1 false (.t 7)⟩,cg 9 6 false (.len false (.t 8)),cg 10 6 false (.bin .eql (.t 9) (.c (I 0))),co 11 (.pick (.t 6) (.c (B true)) (.t 10))]) (.cond (.t 11) (.seq (.ops [2] [co 2 (.mv (.c (I (-1))))]) (.ret)) (.skip))) (.seq (.ops [2] [fa 12 1 1,ld 13 1 12,fa 14 1 1,ld 15 1 14,co 16 (.len false (.t 15)),co 17 (.bin .sub (.t 16) (.c (I 1))),co 18 (.iadrS 4 (.t 13) (.t 17)),fa 19 0 18,ld 20 1 19,ca 21 F.poly_degree [.t 20],cm 2 21]) (.ret)))
def kF:FD:=⟨1,[[]],[.t 2],pN⟩
def cQ:Cmd:=.seq (.ops [0,1,7,8,9] [b2 9 .lss 8 7]) (.seq (.cond (.t 9) (.skip) (.exit 0)) (.seq (.block 1 [0,1,7,8] (.seq (.ops [0,1,5,7,8] [cm 10 8,cm 5 10]) (.seq (.ops [0,1,5,7,8,16] [cm 11 1,cm 12 0,cm 13 5,co 14 (.iadrS 1 (.t 12) (.t 13)),ld 15 1 14,b2 16 .eql 11 15]) (.cond (.t 16) (.seq (.ops [4] [cm 17 5,cm 4 17]) (.ret)) (.skip))))) (.ops [0,1,7,8] [co 18 (.bin .add (.t 8) (.c (I 1))),cm 8 18])))
def oQ:Cmd:=.seq (.ops [0,1] [co 4 (.mv (.c (I 0)))]) (.seq (.seq (.ops [0,1,7,8] [cm 6 0,co 7 (.len false (.t 6)),co 8 (.mv (.c (I 0)))]) (.block 0 [] (.loop [0,1,7,8] [] cQ))) (.seq (.ops [4] [co 4 (.mv (.c (I (-1))))]) (.ret)))
def jj:FD:=⟨2,[[]],[.t 4],oQ⟩
def eK:Cmd:=.seq (.seq (.ops [7,8,37] [cm 34 8,cm 35 7,co 36 (.len false (.t 35)),b2 37 .lss 34 36]) (.cond (.t 37) (.skip) (.exit 0))) (.block 1 [7,8] (.dops [7,8] [cm 38 8,cm 39 7,cm 40 8,co 41 (.slc 7 (.t 39) (some (.t 40)) none none),cm 42 7,cm 43 8,co 44 (.slc 7 (.t 42) none (some (.t 43)) none),⟨(some 45),none,.cpy 7 (.t 41) (.t 44)⟩,b2 46 .add 38 45,cm 8 46] []))
def ft:Cmd:=.seq (.ops [0,1] [co 4 (.mv (.c .emp))]) (.seq (.seq (.ops [0,1,10] [cm 9 1,co 10 (.bin .lss (.t 9) (.c (I 0)))]) (.cond (.t 10) (.ops [0,1] [⟨(some 11),none,.bad⟩,⟨none,none,.bad⟩]) (.skip))) (.seq (.ops [0,5,6] [cm 13 0,co 14 (.len false (.t 13)),co 15 (.cv .u64 (.t 14)),cm 16 1,co 17 (.cv .u64 (.t 16)),ca 18 F.bits_Mul [.t 15,.t 17],cm 12 18,co 19 (.ext 0 (.t 12)),co 20 (.ext 1 (.t 12)),cm 5 19,cm 6 20]) (.seq (.seq (.ops [0,6,26] [cm 21 5,co 22 (.bin .gtr (.t 21) (.c (W 0))),cm 23 22,cg 24 23 false (.mv (.t 6)),cg 25 23 false (.bin .gtr (.t 24) (.c (W 9223372036854775807))),co 26 (.pick (.t 23) (.c (B true)) (.t 25))]) (.cond (.t 26) (.ops [0,6] [⟨(some 27),none,.bad⟩,⟨none,none,.bad⟩]) (.skip))) (.seq (.ops [0,7] [cm 28 6,co 29 (.cv .i64 (.t 28)),⟨(some 30),none,.mkSl 7 [B false,.emp,I 0,B false,.emp,I 0,B false] 88 (.t 29) (.t 29)⟩,cm 7 30]) (.seq (.ops [7,8] [cm 31 7,cm 32 0,⟨(some 33),none,.cpy 7 (.t 31) (.t 32)⟩,cm 8 33]) (.seq (.block 0 [7] (.loop [7,8] [30] eK)) (.seq (.ops [4] [cm 47 7,cm 4 47]) (.ret))))))))
def cZ:FD:=⟨2,[[]],[.t 4],ft⟩
def fM:Cmd:=.seq (.ops [5,13,14,15,16] [b2 16 .lss 15 14]) (.seq (.cond (.t 16) (.skip) (.exit 0)) (.seq (.block 1 [5,13,14,15] (.seq (.ops [5,7,13,14,15] [co 17 (.iadrS 1 (.t 13) (.t 15)),ld 18 1 17,cm 7 18]) (.ops [5,13,14,15] [cm 19 5,cm 20 7,co 21 (.bin .add (.t 20) (.c (I 1))),b2 22 .mul 19 21,cm 5 22]))) (.ops [5,13,14,15] [co 23 (.bin .add (.t 15) (.c (I 1))),cm 15 23])))
def uA:Cmd:=.seq (.ops [0,1] [co 4 (.mv (.c (I 0)))]) (.seq (.ops [0,1,5] [co 5 (.mv (.c (I 1)))]) (.seq (.seq (.ops [5,13,14,15] [cm 8 0,nk 9 8,fa 10 0 9,ld 11 1 10,cm 12 1,co 13 (.slc 1 (.t 11) none (some (.t 12)) none),co 14 (.len false (.t 13)),co 15 (.mv (.c (I 0)))]) (.block 0 [5] (.loop [5,13,14,15] [1000] fM))) (.seq (.ops [4] [cm 24 5,cm 4 24]) (.ret))))
def nD:FD:=⟨2,[[]],[.t 4],uA⟩
def kG:Cmd:=.seq (.ops [0,1,2,6,15,16,17] [b2 17 .lss 16 15]) (.seq (.cond (.t 17) (.skip) (.exit 0)) (.seq (.block 1 [0,1,2,6,15,16] (.seq (.ops [0,1,2,6,7,15,16] [cm 18 16,cm 7 18]) (.seq (.dops [0,1,2,6,7,15,16,31] [cm 19 7,cm 20 6,b2 21 .quo 19 20,cm 22 0,nk 23 22,fa 24 0 23,ld 25 1 24,cm 26 1,co 27 (.iadrS 1 (.t 25) (.t 26)),ld 28 1 27,co 29 (.bin .add (.t 28) (.c (I 1))),b2 30 .rem 21 29,co 31 (.bin .eql (.t 30) (.c (I 0)))] []) (.cond (.t 31) (.ops [0,1,2,6,15,16] [cm 32 2,cm 33 7,cm 34 6,⟨(some 35),none,.call (.t 32) [.t 33,.t 34]⟩]) (.skip))))) (.ops [0,1,2,6,15,16] [co 36 (.bin .add (.t 16) (.c (I 1))),cm 16 36])))
def nE:Cmd:=.seq (.ops [0,1,2,6] [cm 8 0,cm 9 1,ca 10 F.bound_grid_step [.t 8,.t 9],cm 6 10]) (.seq (.ops [0,1,2,6,15,16] [cm 11 0,nk 12 11,fa 13 1 12,ld 14 1 13,co 15 (.len false (.t 14)),co 16 (.mv (.c (I 0)))]) (.block 0 [] (.loop [0,1,2,6,15,16] [1000,1001,1002,1003,1004] kG)))
def ju:FD:=⟨3,[],[],nE⟩
def pv:Cmd:=.seq (.seq (.ops [0,1,2,3,5,11,12,61] [cm 59 12,ld 60 1 2,b2 61 .leq 59 60]) (.cond (.t 61) (.skip) (.exit 4))) (.seq (.block 5 [0,1,2,3,5,11,12] (.seq (.ops [0,1,2,3,5,11,12] [ld 64 1 3,la 65 7 11,la 66 7 5,ca 67 F.bound_grid_mul [.t 64,.t 65,.t 66],sr 7 (.t 11) (.t 67)]) (.dops [0,1,2,3,5,11,12] [ld 68 1 3,nk 69 68,fa 70 1 69,ld 71 1 70,cm 72 0,cm 73 12,cm 74 1,b2 75 .mul 73 74,b2 76 .add 72 75,ld 77 1 3,ld 78 1 3,nk 79 78,fa 80 1 79,ld 81 1 80,cm 82 0,cm 83 12,cm 84 1,b2 85 .mul 83 84,b2 86 .add 82 85,co 87 (.iadrS 7 (.t 81) (.t 86)),la 88 7 87,la 89 7 11,ca 90 F.bound_grid_mul [.t 77,.t 88,.t 89],co 91 (.iadrS 7 (.t 71) (.t 76)),sr 7 (.t 91) (.t 90)] [(0,22),(3,22)]))) (.ops [0,1,2,3,5,11,12] [cm 62 12,co 63 (.bin .add (.t 62) (.c (I 1))),cm 12 63]))
def xP:Cmd:=.seq (.seq (.ops [0,1,2,3,4,5,8,9,13,14,21] [cm 19 9,cm 20 8,b2 21 .geq 19 20]) (.cond (.t 21) (.skip) (.exit 2))) (.seq (.block 3 [0,1,2,3,4,5,8,9,13,14] (.seq (.ops [0,1,2,3,4,5,8,9,10,13,14] [cm 24 0,cm 25 9,cm 26 1,b2 27 .mul 25 26,b2 28 .add 24 27,cm 10 28]) (.dops [0,1,2,3,4,5,8,9,13,14] [ld 29 1 3,nk 30 29,fa 31 1 30,ld 32 1 31,cm 33 10,ld 34 1 3,ld 35 1 3,nk 36 35,fa 37 1 36,ld 38 1 37,cm 39 10,co 40 (.iadrS 7 (.t 38) (.t 39)),la 41 7 40,ld 42 1 3,la 43 7 4,ld 44 1 3,nk 45 44,fa 46 1 45,ld 47 1 46,cm 48 10,cm 49 1,b2 50 .add 48 49,co 51 (.iadrS 7 (.t 47) (.t 50)),la 52 7 51,ca 53 F.bound_grid_mul [.t 42,.t 43,.t 52],ca 54 F.bound_grid_add [.t 34,.t 41,.t 53],co 55 (.iadrS 7 (.t 32) (.t 33)),sr 7 (.t 55) (.t 54)] [(0,24),(3,24),(5,24),(6,24),(9,24),(12,24),(0,25),(3,25)]))) (.ops [0,1,2,3,4,5,8,9,13,14] [cm 22 9,co 23 (.bin .sub (.t 22) (.c (I 1))),cm 9 23]))
def px:Cmd:=.seq (.ops [0,1,2,3,4,5,13,14,15] [b2 15 .lss 14 13]) (.seq (.cond (.t 15) (.skip) (.exit 0)) (.seq (.block 1 [0,1,2,3,4,5,13,14] (.seq (.ops [0,1,2,3,4,5,8,13,14] [cm 16 14,cm 8 16]) (.seq (.ops [0,1,2,3,4,5,8,9,13,14] [ld 17 1 2,co 18 (.bin .sub (.t 17) (.c (I 1))),cm 9 18]) (.block 2 [0,1,2,3,4,5,13,14] (.loop [0,1,2,3,4,5,8,9,13,14] [1000,1001,1002,1003,1004] xP))))) (.ops [0,1,2,3,4,5,13,14] [co 56 (.bin .add (.t 14) (.c (I 1))),cm 14 56])))
def rP:Cmd:=.seq (.seq (.ops [0,1,2,3,4,5,13,14] [ld 13 1 2,co 14 (.mv (.c (I 0)))]) (.block 0 [0,1,2,3,5] (.loop [0,1,2,3,4,5,13,14] [1000,1001,1002,1003,1004] px))) (.seq (.ops [0,1,2,3,5,11] [ca 57 F.dyadic_Int [.c (I 1)],ca 58 F.interval_Point [.t 57],al 11 [B false,.emp,I 0,B false,.emp,I 0,B false],sr 7 (.t 11) (.t 58)]) (.seq (.ops [0,1,2,3,5,11,12] [co 12 (.mv (.c (I 1)))]) (.block 4 [] (.loop [0,1,2,3,5,11,12] [11,1000,1001,1002,1003,1004] pv))))
def lN:FD:=⟨6,[],[],rP⟩
def EW:Cmd:=.seq (.ops [0,4,5,6] [bx 4 7 (.t 1),bx 5 7 (.t 2),al 6 [B false,.emp,I 0,B false,.emp,I 0,B false]]) (.seq (.dops [6] [la 7 7 4,la 8 7 5,cm 9 0,nk 10 9,fa 11 2 10,ld 12 1 11,ca 13 F.interval_Add [.t 7,.t 8,.t 12],sr 7 (.t 6) (.t 13)] []) (.ret))
def DK:FD:=⟨3,[[.o 0 [],.o 2 [],.o 0 [],.o 0 [],.o 2 [],.o 0 [],.o 0 []]],[.cell 6 7 true],EW⟩
def EX:Cmd:=.seq (.ops [0,4,5,6] [bx 4 7 (.t 1),bx 5 7 (.t 2),al 6 [B false,.emp,I 0,B false,.emp,I 0,B false]]) (.seq (.dops [6] [la 7 7 4,la 8 7 5,cm 9 0,nk 10 9,fa 11 2 10,ld 12 1 11,ca 13 F.interval_Mul [.t 7,.t 8,.t 12],sr 7 (.t 6) (.t 13)] []) (.ret))
def DL:FD:=⟨3,[[.o 0 [],.o 2 [],.o 0 [],.o 0 [],.o 2 [],.o 0 [],.o 0 []]],[.cell 6 7 true],EX⟩
def tw:Cmd:=.seq (.seq (.ops [0,1,2,3,8,9,69] [cm 67 9,cm 68 8,b2 69 .geq 67 68]) (.cond (.t 69) (.skip) (.exit 4))) (.seq (.block 5 [0,1,2,3,8,9] (.dops [0,1,2,3,8,9] [ld 72 1 3,nk 73 72,fa 74 1 73,ld 75 1 74,cm 76 0,cm 77 9,cm 78 1,b2 79 .mul 77 78,b2 80 .add 76 79,ld 81 1 3,ld 82 1 3,nk 83 82,fa 84 1 83,ld 85 1 84,cm 86 0,cm 87 9,cm 88 1,b2 89 .mul 87 88,b2 90 .add 86 89,co 91 (.iadrS 7 (.t 85) (.t 90)),la 92 7 91,ld 93 1 3,nk 94 93,fa 95 1 94,ld 96 1 95,cm 97 0,cm 98 9,co 99 (.bin .sub (.t 98) (.c (I 1))),cm 100 1,b2 101 .mul 99 100,b2 102 .add 97 101,co 103 (.iadrS 7 (.t 96) (.t 102)),la 104 7 103,ca 105 F.bound_grid_add [.t 81,.t 92,.t 104],co 106 (.iadrS 7 (.t 75) (.t 80)),sr 7 (.t 106) (.t 105)] [(0,33),(3,33)])) (.ops [0,1,2,3,8,9] [cm 70 9,co 71 (.bin .sub (.t 70) (.c (I 1))),cm 9 71]))
def lj:Cmd:=.seq (.seq (.ops [0,1,2,3,8,63] [cm 61 8,ld 62 1 2,b2 63 .leq 61 62]) (.cond (.t 63) (.skip) (.exit 2))) (.seq (.block 3 [0,1,2,3,8] (.seq (.ops [0,1,2,3,8,9] [ld 66 1 2,cm 9 66]) (.block 4 [0,1,2,3,8] (.loop [0,1,2,3,8,9] [1000,1001,1002,1003] tw)))) (.ops [0,1,2,3,8] [cm 64 8,co 65 (.bin .add (.t 64) (.c (I 1))),cm 8 65]))
def lk:Cmd:=.seq (.seq (.ops [0,1,2,3,6,7,14] [cm 12 7,ld 13 1 2,b2 14 .leq 12 13]) (.cond (.t 14) (.skip) (.exit 0))) (.seq (.block 1 [0,1,2,3,6,7] (.seq (.dops [0,1,2,3,6,7] [ld 17 1 3,la 18 7 6,ld 19 1 2,cm 20 7,b2 21 .sub 19 20,co 22 (.bin .add (.t 21) (.c (I 1))),ca 23 F.dyadic_Int [.t 22],ca 24 F.interval_Point [.t 23],ca 25 F.bound_grid_mul [.t 17,.t 18,.t 24],cm 26 7,ca 27 F.dyadic_Int [.t 26],ca 28 F.interval_Point [.t 27],ld 29 1 3,nk 30 29,fa 31 2 30,ld 32 1 31,ca 33 F.interval_Div [.t 25,.t 28,.t 32],sr 7 (.t 6) (.t 33)] [(0,6),(1,6),(0,7),(1,7),(6,12),(7,12),(8,12),(10,12),(11,12),(6,15),(7,15),(8,15),(10,15),(11,15)]) (.dops [0,1,2,3,6,7] [ld 34 1 3,nk 35 34,fa 36 1 35,ld 37 1 36,cm 38 0,cm 39 7,cm 40 1,b2 41 .mul 39 40,b2 42 .add 38 41,ld 43 1 3,nk 44 43,fa 45 1 44,ld 46 1 45,cm 47 0,cm 48 7,cm 49 1,b2 50 .mul 48 49,b2 51 .add 47 50,co 52 (.iadrS 7 (.t 46) (.t 51)),la 53 7 52,la 54 7 6,ld 55 1 3,nk 56 55,fa 57 2 56,ld 58 1 57,ca 59 F.interval_Div [.t 53,.t 54,.t 58],co 60 (.iadrS 7 (.t 37) (.t 42)),sr 7 (.t 60) (.t 59)] [(0,25),(3,25)]))) (.ops [0,1,2,3,6,7] [cm 15 7,co 16 (.bin .add (.t 15) (.c (I 1))),cm 7 16]))
def nF:Cmd:=.seq (.ops [0,1,2,3,6] [ca 10 F.dyadic_Int [.c (I 1)],ca 11 F.interval_Point [.t 10],al 6 [B false,.emp,I 0,B false,.emp,I 0,B false],sr 7 (.t 6) (.t 11)]) (.seq (.seq (.ops [0,1,2,3,6,7] [co 7 (.mv (.c (I 1)))]) (.block 0 [0,1,2,3] (.loop [0,1,2,3,6,7] [6,1000,1001,1002,1003] lk))) (.seq (.ops [0,1,2,3,8] [co 8 (.mv (.c (I 1)))]) (.block 2 [] (.loop [0,1,2,3,8] [1000,1001,1002,1003] lj))))
def iH:FD:=⟨4,[],[],nF⟩
def JB:Cmd:=.seq (.ops [2,3,4,6] [bx 3 7 (.t 0),bx 4 7 (.t 1),al 6 [B false,.emp,I 0,B false,.emp,I 0,B false]]) (.seq (.seq (.ops [2,3,4,6,21] [la 7 7 3,la 8 7 4,⟨(some 9),none,.buildSl 7 [B false,.emp,I 0,B false,.emp,I 0,B false] 2 [(0,.t 7),(1,.t 8)]⟩,ca 10 F.interval_known [.t 9],co 11 (.un .not (.t 10)),cm 12 11,cg 13 12 false (.mv (.t 2)),⟨(some 14),(some (12,false)),.call (.c (.fn F.interval_permitted [] [])) [.t 13]⟩,cg 15 12 false (.un .not (.t 14)),co 16 (.pick (.t 12) (.c (B true)) (.t 15)),cm 17 16,⟨(some 18),(some (17,false)),.load 7 true (.t 4)⟩,⟨(some 19),(some (17,false)),.call (.c (.fn F.interval_Sign [] [])) [.t 18]⟩,cg 20 17 false (.bin .eql (.t 19) (.c (I 0))),co 21 (.pick (.t 17) (.c (B true)) (.t 20))]) (.cond (.t 21) (.seq (.ops [6] [ca 22 F.interval_Whole [],sr 7 (.t 6) (.t 22)]) (.ret)) (.skip))) (.seq (.ops [6] [la 23 7 3,la 24 7 4,cm 25 2,ca 26 F.interval_four [.t 23,.t 24,.t 25,.c (.fn F.round_DivDown [] []),.c (.fn F.round_DivUp [] [])],sr 7 (.t 6) (.t 26)]) (.ret)))
def Ht:FD:=⟨3,[[.o 0 [],.o 2 [],.o 0 [],.o 0 [],.o 2 [],.o 0 [],.o 0 []]],[.cell 6 7 true],JB⟩
def uR:Cmd:=.seq (.ops [1] [bx 1 3 (.t 0),co 2 (.mv (.c (I 0)))]) (.seq (.seq (.ops [1,6] [fa 3 1 1,ld 4 1 3,co 5 (.len false (.t 4)),co 6 (.bin .eql (.t 5) (.c (I 0)))]) (.cond (.t 6) (.seq (.ops [2] [co 2 (.mv (.c (I 0)))]) (.ret)) (.skip))) (.seq (.seq (.ops [8] [fa 7 0 1,ld 8 1 7]) (.cond (.t 8) (.seq (.ops [2] [co 2 (.mv (.c (I (-1))))]) (.ret)) (.skip))) (.seq (.ops [2] [co 2 (.mv (.c (I 1)))]) (.ret))))
def py:FD:=⟨1,[[]],[.t 2],uR⟩
def BL:Cmd:=.seq (.ops [1] [bx 1 3 (.t 0),co 2 (.mv (.c (I 0)))]) (.seq (.seq (.ops [1,6] [fa 3 1 1,ld 4 1 3,co 5 (.len false (.t 4)),co 6 (.bin .eql (.t 5) (.c (I 0)))]) (.cond (.t 6) (.seq (.ops [2] [co 2 (.mv (.c (I 0)))]) (.ret)) (.skip))) (.seq (.dops [2] [fa 7 1 1,ld 8 1 7,ca 9 F.r02_bits [.t 8],fa 10 2 1,ld 11 1 10,b2 12 .add 9 11,cm 2 12] [(2,4)]) (.ret)))
def uS:FD:=⟨1,[[]],[.t 2],BL⟩
def qq:Cmd:=.seq (.ops [2,3,4] [bx 2 3 (.t 0),bx 3 3 (.t 1),al 4 [B false,.emp,I 0]]) (.seq (.seq (.ops [2,3,4,11] [fa 8 1 2,ld 9 1 8,co 10 (.len false (.t 9)),co 11 (.bin .eql (.t 10) (.c (I 0)))]) (.cond (.t 11) (.seq (.ops [4] [la 12 3 3,sr 3 (.t 4) (.t 12)]) (.ret)) (.skip))) (.seq (.seq (.ops [2,3,4,16] [fa 13 1 3,ld 14 1 13,co 15 (.len false (.t 14)),co 16 (.bin .eql (.t 15) (.c (I 0)))]) (.cond (.t 16) (.seq (.ops [4] [la 17 3 2,sr 3 (.t 4) (.t 17)]) (.ret)) (.skip))) (.seq (.ops [2,3,4,5] [fa 18 2 2,ld 19 1 18,fa 20 2 3,ld 21 1 20,co 22 (.mnx true (.t 19) [.t 21]),cm 5 22]) (.seq (.dops [2,3,4,5,6,7] [fa 23 1 2,ld 24 1 23,fa 25 2 2,ld 26 1 25,cm 27 5,b2 28 .sub 26 27,ca 29 F.r02_left [.t 24,.t 28],fa 30 1 3,ld 31 1 30,fa 32 2 3,ld 33 1 32,cm 34 5,b2 35 .sub 33 34,ca 36 F.r02_left [.t 31,.t 35],cm 6 29,cm 7 36] [(6,8),(6,10)]) (.seq (.seq (.ops [2,3,4,5,6,7,41] [fa 37 0 2,ld 38 1 37,fa 39 0 3,ld 40 1 39,co 41 (.eqc false 0 (.t 38) (.t 40))]) (.cond (.t 41) (.seq (.dops [4] [fa 42 0 2,ld 43 1 42,cm 44 6,cm 45 7,ca 46 F.r02_plus [.t 44,.t 45],cm 47 5,ca 48 F.r02_Of [.t 43,.t 46,.t 47],sr 3 (.t 4) (.t 48)] [(1,4)]) (.ret)) (.skip))) (.seq (.seq (.ops [2,3,4,5,6,7,52] [cm 49 6,cm 50 7,ca 51 F.r02_compare [.t 49,.t 50],co 52 (.bin .geq (.t 51) (.c (I 0)))]) (.cond (.t 52) (.seq (.dops [4] [fa 53 0 2,ld 54 1 53,cm 55 6,cm 56 7,ca 57 F.r02_minus [.t 55,.t 56],cm 58 5,ca 59 F.r02_Of [.t 54,.t 57,.t 58],sr 3 (.t 4) (.t 59)] [(1,4)]) (.ret)) (.skip))) (.seq (.dops [4] [fa 60 0 3,ld 61 1 60,cm 62 7,cm 63 6,ca 64 F.r02_minus [.t 62,.t 63],cm 65 5,ca 66 F.r02_Of [.t 61,.t 64,.t 65],sr 3 (.t 4) (.t 66)] [(1,4)]) (.ret))))))))
def lO:FD:=⟨2,[[.o 0 [],.o 2 [],.o 0 []]],[.cell 4 3 true],qq⟩
def BM:Cmd:=.seq (.ops [1,2] [bx 1 3 (.t 0),al 2 [B false,.emp,I 0]]) (.seq (.ops [2] [fa 3 0 1,ld 4 1 3,co 5 (.un .not (.t 4)),cm 6 5,cg 7 6 true (.fadr 1 (.t 1)),⟨(some 8),(some (6,true)),.load 1 false (.t 7)⟩,cg 9 6 true (.len false (.t 8)),cg 10 6 true (.bin .gtr (.t 9) (.c (I 0))),co 11 (.pick (.t 6) (.t 10) (.c (B false))),fa 12 1 1,ld 13 1 12,fa 14 2 1,ld 15 1 14,co 16 (.build [B false,.emp,I 0] [(0,1,.t 11),(1,1,.t 13),(2,1,.t 15)]),sr 3 (.t 2) (.t 16)]) (.ret))
def uT:FD:=⟨1,[[.o 0 [],.o 2 [],.o 0 []]],[.cell 2 3 true],BM⟩
def EY:Cmd:=.seq (.ops [0,1,2,6] [al 6 [B false,.emp,I 0]]) (.seq (.ops [0,1,2,6] [cm 8 1,ca 9 F.r02_trim [.t 8],cm 1 9]) (.seq (.seq (.ops [0,1,2,6,12] [cm 10 1,co 11 (.len false (.t 10)),co 12 (.bin .eql (.t 11) (.c (I 0)))]) (.cond (.t 12) (.seq (.ops [6] [co 13 (.build [B false,.emp,I 0] []),sr 3 (.t 6) (.t 13)]) (.ret)) (.skip))) (.seq (.ops [0,1,2,6,7] [cm 14 1,ca 15 F.r02_zeros [.t 14],cm 7 15]) (.seq (.ops [6] [cm 16 0,cm 17 1,cm 18 7,ca 19 F.r02_right [.t 17,.t 18],cm 20 2,cm 21 7,b2 22 .add 20 21,co 23 (.build [B false,.emp,I 0] [(0,1,.t 16),(1,1,.t 19),(2,1,.t 22)]),sr 3 (.t 6) (.t 23)]) (.ret)))))
def xq:FD:=⟨3,[[.o 0 [],.o 2 [],.o 0 []]],[.cell 6 3 true],EY⟩
def gz:Cmd:=.seq (.ops [1] [bx 1 3 (.t 0),co 2 (.mv (.c (B false)))]) (.seq (.ops [1,3] [fa 4 1 1,ld 5 1 4,ca 6 F.dyadic_size [.t 5],cm 3 6]) (.seq (.ops [2] [cm 7 3,co 8 (.bin .eql (.t 7) (.c (I 0))),cm 9 8,cg 10 9 false (.mv (.t 3)),cg 11 9 false (.bin .leq (.t 10) (.c (I 4096))),cg 12 9 false (.mv (.t 11)),cg 13 12 true (.fadr 2 (.t 1)),⟨(some 14),(some (12,true)),.load 1 false (.t 13)⟩,cg 15 12 true (.bin .geq (.t 14) (.c (I (-16384)))),cg 16 9 false (.pick (.t 12) (.t 15) (.c (B false))),cg 17 9 false (.mv (.t 16)),cg 18 17 true (.fadr 2 (.t 1)),⟨(some 19),(some (17,true)),.load 1 false (.t 18)⟩,cg 20 17 true (.bin .leq (.t 19) (.c (I 16384))),cg 21 9 false (.pick (.t 17) (.t 20) (.c (B false))),cg 22 9 false (.mv (.t 21)),cg 23 22 true (.mv (.t 3)),cg 24 22 true (.fadr 2 (.t 1)),⟨(some 25),(some (22,true)),.load 1 false (.t 24)⟩,cg 26 22 true (.bin .add (.t 23) (.t 25)),cg 27 22 true (.bin .leq (.t 26) (.c (I 16384))),cg 28 9 false (.pick (.t 22) (.t 27) (.c (B false))),co 29 (.pick (.t 9) (.c (B true)) (.t 28)),cm 2 29]) (.ret)))
def eC:FD:=⟨1,[[]],[.t 2],gz⟩
def re:Cmd:=.seq (.ops [1] [bx 1 3 (.t 0),co 2 (.mv (.c (I 0)))]) (.seq (.seq (.ops [1,11] [la 3 3 1,ca 4 F.dyadic_Valid [.t 3],co 5 (.un .not (.t 4)),cm 6 5,cg 7 6 false (.fadr 1 (.t 1)),⟨(some 8),(some (6,false)),.load 1 false (.t 7)⟩,cg 9 6 false (.len false (.t 8)),cg 10 6 false (.bin .eql (.t 9) (.c (I 0))),co 11 (.pick (.t 6) (.c (B true)) (.t 10))]) (.cond (.t 11) (.seq (.ops [2] [co 2 (.mv (.c (I 0)))]) (.ret)) (.skip))) (.seq (.dops [2] [fa 12 1 1,ld 13 1 12,ca 14 F.dyadic_size [.t 13],fa 15 2 1,ld 16 1 15,b2 17 .add 14 16,cm 2 17] [(2,4)]) (.ret)))
def mn:FD:=⟨1,[[]],[.t 2],re⟩
def fh:Cmd:=.seq (.seq (.ops [0,1,5,24] [cm 23 5,co 24 (.bin .geq (.t 23) (.c (I 0)))]) (.cond (.t 24) (.skip) (.exit 0))) (.seq (.block 1 [0,1,5] (.block 2 [0,1,5] (.seq (.dops [0,1,5,27] [cm 28 0,cm 29 5,co 30 (.iadrS 1 (.t 28) (.t 29)),ld 31 1 30,cm 32 1,cm 33 5,co 34 (.iadrS 1 (.t 32) (.t 33)),ld 35 1 34,b2 36 .lss 31 35,cm 27 36] []) (.cond (.t 27) (.seq (.ops [4] [co 4 (.mv (.c (I (-1))))]) (.ret)) (.seq (.dops [0,1,5,37] [cm 38 0,cm 39 5,co 40 (.iadrS 1 (.t 38) (.t 39)),ld 41 1 40,cm 42 1,cm 43 5,co 44 (.iadrS 1 (.t 42) (.t 43)),ld 45 1 44,b2 46 .gtr 41 45,cm 37 46] []) (.cond (.t 37) (.seq (.ops [4] [co 4 (.mv (.c (I 1)))]) (.ret)) (.skip))))))) (.ops [0,1,5] [cm 25 5,co 26 (.bin .sub (.t 25) (.c (I 1))),cm 5 26]))
def AB:Cmd:=.seq (.ops [0,1] [co 4 (.mv (.c (I 0)))]) (.seq (.ops [0,1] [cm 6 0,ca 7 F.natural_trim [.t 6],cm 8 1,ca 9 F.natural_trim [.t 8],cm 0 7,cm 1 9]) (.seq (.seq (.ops [0,1,14] [cm 10 0,co 11 (.len false (.t 10)),cm 12 1,co 13 (.len false (.t 12)),b2 14 .neq 11 13]) (.cond (.t 14) (.seq (.seq (.ops [19] [cm 15 0,co 16 (.len false (.t 15)),cm 17 1,co 18 (.len false (.t 17)),b2 19 .lss 16 18]) (.cond (.t 19) (.seq (.ops [4] [co 4 (.mv (.c (I (-1))))]) (.ret)) (.skip))) (.seq (.ops [4] [co 4 (.mv (.c (I 1)))]) (.ret))) (.skip))) (.seq (.seq (.ops [0,1,5] [cm 20 0,co 21 (.len false (.t 20)),co 22 (.bin .sub (.t 21) (.c (I 1))),cm 5 22]) (.block 0 [] (.loop [0,1,5] [] fh))) (.seq (.ops [4] [co 4 (.mv (.c (I 0)))]) (.ret)))))
def kH:FD:=⟨2,[[]],[.t 4],AB⟩
def wj:Cmd:=.seq (.ops [0,1] [co 4 (.mv (.c .emp))]) (.seq (.ops [5] [cm 8 0,cm 9 1,ca 10 F.natural_Shl [.t 8,.t 9],cm 7 10,co 11 (.ext 0 (.t 7)),co 12 (.ext 1 (.t 7)),cm 5 11,cm 6 12]) (.seq (.ops [4] [cm 13 5,cm 4 13]) (.ret)))
def o7:FD:=⟨2,[[.o 2 []]],[.t 4],wj⟩
def gN:Cmd:=.seq (.ops [1] [bx 1 3 (.t 0),co 2 (.mv (.c (B false)))]) (.seq (.ops [2] [fa 3 0 1,ld 4 1 3,co 5 (.un .not (.t 4)),cm 6 5,cg 7 6 true (.fadr 1 (.t 1)),⟨(some 8),(some (6,true)),.load 1 false (.t 7)⟩,cg 9 6 true (.len false (.t 8)),cg 10 6 true (.bin .eql (.t 9) (.c (I 0))),co 11 (.pick (.t 6) (.t 10) (.c (B false))),cm 12 11,cg 13 12 true (.fadr 2 (.t 1)),⟨(some 14),(some (12,true)),.load 1 false (.t 13)⟩,cg 15 12 true (.bin .eql (.t 14) (.c (I 0))),co 16 (.pick (.t 12) (.t 15) (.c (B false))),cm 2 16]) (.ret))
def eM:FD:=⟨1,[[]],[.t 2],gN⟩
def rf:Cmd:=.seq (.ops [0,1] [co 4 (.mv (.c (B false)))]) (.seq (.ops [4] [cm 5 0,cm 6 1,ca 7 F.slices_IndexFunc_int_int_ [.t 5,.t 6],co 8 (.bin .geq (.t 7) (.c (I 0))),cm 4 8]) (.ret))
def jy:FD:=⟨2,[[]],[.t 4],rf⟩
def sj:Cmd:=.seq (.ops [0] [co 2 (.mv (.c (B false)))]) (.seq (.ops [2] [cm 3 0,co 4 (.bin .lss (.t 3) (.c (I 0))),cm 5 4,cg 6 5 false (.mv (.t 0)),cg 7 5 false (.bin .gtr (.t 6) (.c (I 32))),co 8 (.pick (.t 5) (.c (B true)) (.t 7)),cm 2 8]) (.ret))
def mW:FD:=⟨1,[[]],[.t 2],sj⟩
def lP:Cmd:=.seq (.ops [3,6,7,8,9] [b2 9 .lss 8 7]) (.seq (.cond (.t 9) (.skip) (.exit 0)) (.seq (.block 1 [3,6,7,8] (.seq (.ops [3,5,6,7,8] [co 10 (.iadrS 1 (.t 6) (.t 8)),ld 11 1 10,cm 5 11]) (.ops [3,6,7,8] [cm 12 3,cm 13 5,b2 14 .add 12 13,cm 3 14]))) (.ops [3,6,7,8] [co 15 (.bin .add (.t 8) (.c (I 1))),cm 8 15])))
def AC:Cmd:=.seq (.ops [0] [co 2 (.mv (.c (I 0)))]) (.seq (.ops [0,3] [co 3 (.mv (.c (I 0)))]) (.seq (.seq (.ops [3,6,7,8] [cm 6 0,co 7 (.len false (.t 6)),co 8 (.mv (.c (I 0)))]) (.block 0 [3] (.loop [3,6,7,8] [] lP))) (.seq (.ops [2] [cm 16 3,cm 2 16]) (.ret))))
def sk:FD:=⟨1,[[]],[.t 2],AC⟩
def wk:Cmd:=.seq (.ops [0,1] [co 4 (.mv (.c (I 0)))]) (.seq (.seq (.ops [0,1,5] [cm 6 0,ca 7 F.poly_degree [.t 6],cm 8 1,ca 9 F.poly_degree [.t 8],ca 10 F.cmp_Compare_int_ [.t 7,.t 9],cm 5 10]) (.seq (.ops [0,1,5,12] [cm 11 5,co 12 (.bin .neq (.t 11) (.c (I 0)))]) (.cond (.t 12) (.seq (.ops [4] [cm 13 5,cm 4 13]) (.ret)) (.skip)))) (.seq (.ops [4] [cm 14 1,cm 15 0,ca 16 F.slices_Compare_int_int_ [.t 14,.t 15],cm 4 16]) (.ret)))
def pO:FD:=⟨2,[[]],[.t 4],wk⟩
def rg:Cmd:=.seq (.ops [2,3,4] [bx 2 3 (.t 0),bx 3 3 (.t 1),al 4 [B false,.emp,I 0],co 5 (.mv (.c (I 0)))]) (.seq (.seq (.ops [2,3,4,24] [fa 15 1 2,ld 16 1 15,co 17 (.len false (.t 16)),co 18 (.bin .eql (.t 17) (.c (I 0))),cm 19 18,cg 20 19 false (.fadr 1 (.t 3)),⟨(some 21),(some (19,false)),.load 1 false (.t 20)⟩,cg 22 19 false (.len false (.t 21)),cg 23 19 false (.bin .eql (.t 22) (.c (I 0))),co 24 (.pick (.t 19) (.c (B true)) (.t 23))]) (.cond (.t 24) (.seq (.seq (.ops [2,3,4,28] [fa 25 1 2,ld 26 1 25,co 27 (.len false (.t 26)),co 28 (.bin .eql (.t 27) (.c (I 0)))]) (.cond (.t 28) (.ops [2,4] [la 29 3 3,sr 3 (.t 2) (.t 29)]) (.skip))) (.seq (.ops [4,5] [fa 30 0 2,ld 31 1 30,fa 32 1 2,ld 33 1 32,fa 34 2 2,ld 35 1 34,ca 36 F.dyadic_canonical [.t 31,.t 33,.t 35],sr 3 (.t 4) (.t 36),co 5 (.mv (.c (I 0)))]) (.ret))) (.skip))) (.seq (.ops [2,3,4,6] [fa 37 2 2,ld 38 1 37,fa 39 2 3,ld 40 1 39,co 41 (.mnx true (.t 38) [.t 40]),cm 6 41]) (.seq (.dops [2,3,4,6,7,8] [la 42 3 2,ca 43 F.dyadic_Top [.t 42],la 44 3 3,ca 45 F.dyadic_Top [.t 44],cm 7 43,cm 8 45] [(1,2)]) (.seq (.seq (.ops [2,3,4,6,63] [cm 46 7,cm 47 8,co 48 (.mnx false (.t 46) [.t 47]),cm 49 6,b2 50 .sub 48 49,co 51 (.bin .gtr (.t 50) (.c (I 4097))),cm 52 51,cg 53 52 true (.mv (.t 7)),cg 54 52 true (.mv (.t 8)),cg 55 52 true (.bin .sub (.t 53) (.t 54)),cg 56 52 true (.bin .gtr (.t 55) (.c (I 1))),cg 57 52 true (.mv (.t 56)),cg 58 57 false (.mv (.t 8)),cg 59 57 false (.mv (.t 7)),cg 60 57 false (.bin .sub (.t 58) (.t 59)),cg 61 57 false (.bin .gtr (.t 60) (.c (I 1))),cg 62 52 true (.pick (.t 57) (.c (B true)) (.t 61)),co 63 (.pick (.t 52) (.t 62) (.c (B false)))]) (.cond (.t 63) (.seq (.ops [4,5] [co 64 (.build [B false,.emp,I 0] []),sr 3 (.t 4) (.t 64),co 5 (.mv (.c (I 9)))]) (.ret)) (.skip))) (.seq (.dops [2,3,4,6,9,10] [fa 65 1 2,ld 66 1 65,fa 67 2 2,ld 68 1 67,cm 69 6,b2 70 .sub 68 69,ca 71 F.dyadic_shifted [.t 66,.t 70],fa 72 1 3,ld 73 1 72,fa 74 2 3,ld 75 1 74,cm 76 6,b2 77 .sub 75 76,ca 78 F.dyadic_shifted [.t 73,.t 77],cm 9 71,cm 10 78] [(6,8),(6,10)]) (.seq (.seq (.ops [2,3,4,6,9,10,83] [fa 79 0 2,ld 80 1 79,fa 81 0 3,ld 82 1 81,co 83 (.eqc false 0 (.t 80) (.t 82))]) (.cond (.t 83) (.seq (.ops [2,4,6,11] [cm 85 9,cm 86 10,ca 87 F.natural_Add [.t 85,.t 86],cm 84 87,co 88 (.ext 0 (.t 84)),co 89 (.ext 1 (.t 84)),cm 11 88,cm 12 89]) (.seq (.ops [4,5] [fa 90 0 2,ld 91 1 90,cm 92 11,cm 93 6,ca 94 F.dyadic_canonical [.t 91,.t 92,.t 93],ca 95 F.dyadic_checked [.t 94],co 96 (.ext 0 (.t 95)),co 97 (.ext 1 (.t 95)),sr 3 (.t 4) (.t 96),cm 5 97]) (.ret))) (.skip))) (.seq (.seq (.ops [2,3,4,6,9,10,101] [cm 98 9,cm 99 10,ca 100 F.natural_Cmp [.t 98,.t 99],co 101 (.bin .lss (.t 100) (.c (I 0)))]) (.cond (.t 101) (.ops [2,4,6,9,10] [la 102 3 3,cm 103 10,cm 104 9,sr 3 (.t 2) (.t 102),cm 9 103,cm 10 104]) (.skip))) (.seq (.ops [2,4,6,13] [cm 106 9,cm 107 10,ca 108 F.natural_Sub [.t 106,.t 107],cm 105 108,co 109 (.ext 0 (.t 105)),co 110 (.ext 1 (.t 105)),cm 13 109,cm 14 110]) (.seq (.ops [4,5] [fa 111 0 2,ld 112 1 111,cm 113 13,cm 114 6,ca 115 F.dyadic_canonical [.t 112,.t 113,.t 114],ca 116 F.dyadic_checked [.t 115],co 117 (.ext 0 (.t 116)),co 118 (.ext 1 (.t 116)),sr 3 (.t 4) (.t 117),cm 5 118]) (.ret))))))))))
def fY:FD:=⟨2,[[.o 0 [],.o 2 [],.o 0 []],[]],[.cell 4 3 true,.t 5],rg⟩
def p9:Cmd:=.seq (.ops [1] [bx 1 7 (.t 0),co 2 (.mv (.c (B false)))]) (.seq (.ops [2] [la 3 7 1,ca 4 F.interval_Valid [.t 3],co 5 (.un .not (.t 4)),cm 6 5,cg 7 6 false (.fadr 6 (.t 1)),⟨(some 8),(some (6,false)),.load 1 false (.t 7)⟩,co 9 (.pick (.t 6) (.c (B true)) (.t 8)),cm 2 9]) (.ret))
def kt:FD:=⟨1,[[]],[.t 2],p9⟩
def dv:Cmd:=.seq (.seq (.ops [0,1,5,20] [cm 19 5,co 20 (.bin .geq (.t 19) (.c (I 0)))]) (.cond (.t 20) (.skip) (.exit 0))) (.seq (.block 1 [0,1,5] (.seq (.seq (.dops [0,1,5,31] [cm 23 0,cm 24 5,co 25 (.iadrS 1 (.t 23) (.t 24)),ld 26 1 25,cm 27 1,cm 28 5,co 29 (.iadrS 1 (.t 27) (.t 28)),ld 30 1 29,b2 31 .lss 26 30] []) (.cond (.t 31) (.seq (.ops [4] [co 4 (.mv (.c (I (-1))))]) (.ret)) (.skip))) (.seq (.dops [0,1,5,40] [cm 32 0,cm 33 5,co 34 (.iadrS 1 (.t 32) (.t 33)),ld 35 1 34,cm 36 1,cm 37 5,co 38 (.iadrS 1 (.t 36) (.t 37)),ld 39 1 38,b2 40 .gtr 35 39] []) (.cond (.t 40) (.seq (.ops [4] [co 4 (.mv (.c (I 1)))]) (.ret)) (.skip))))) (.ops [0,1,5] [cm 21 5,co 22 (.bin .sub (.t 21) (.c (I 1))),cm 5 22]))
def mo:Cmd:=.seq (.ops [0,1] [co 4 (.mv (.c (I 0)))]) (.seq (.seq (.ops [0,1,10] [cm 6 0,co 7 (.len false (.t 6)),cm 8 1,co 9 (.len false (.t 8)),b2 10 .neq 7 9]) (.cond (.t 10) (.seq (.seq (.ops [15] [cm 11 0,co 12 (.len false (.t 11)),cm 13 1,co 14 (.len false (.t 13)),b2 15 .lss 12 14]) (.cond (.t 15) (.seq (.ops [4] [co 4 (.mv (.c (I (-1))))]) (.ret)) (.skip))) (.seq (.ops [4] [co 4 (.mv (.c (I 1)))]) (.ret))) (.skip))) (.seq (.seq (.ops [0,1,5] [cm 16 0,co 17 (.len false (.t 16)),co 18 (.bin .sub (.t 17) (.c (I 1))),cm 5 18]) (.block 0 [] (.loop [0,1,5] [] dv))) (.seq (.ops [4] [co 4 (.mv (.c (I 0)))]) (.ret))))
def oe:FD:=⟨2,[[]],[.t 4],mo⟩
def bv:Cmd:=.seq (.seq (.ops [0,1,2,8,9,10,17] [cm 15 9,cm 16 10,b2 17 .lss 15 16]) (.cond (.t 17) (.skip) (.exit 0))) (.block 1 [0,1,2,8,9,10] (.seq (.ops [0,1,2,8,9,10,11] [cm 18 9,cm 19 10,b2 20 .add 18 19,co 21 (.cv .u64 (.t 20)),co 22 (.bin .shr (.t 21) (.c (W 1))),co 23 (.cv .i64 (.t 22)),cm 11 23]) (.seq (.ops [0,1,2,8,9,10,11,31] [cm 24 2,cm 25 0,cm 26 11,co 27 (.iadrS 4 (.t 25) (.t 26)),la 28 4 27,cm 29 1,⟨(some 30),none,.call (.t 24) [.t 28,.t 29]⟩,co 31 (.bin .lss (.t 30) (.c (I 0)))]) (.cond (.t 31) (.ops [0,1,2,8,9,10] [cm 32 11,co 33 (.bin .add (.t 32) (.c (I 1))),cm 9 33]) (.ops [0,1,2,8,9,10] [cm 34 11,cm 10 34])))))
def dQ:Cmd:=.seq (.ops [0,1,2] [co 6 (.mv (.c (I 0))),co 7 (.mv (.c (B false)))]) (.seq (.ops [0,1,2,8] [cm 12 0,co 13 (.len false (.t 12)),cm 8 13]) (.seq (.ops [0,1,2,8,9,10] [cm 14 8,co 9 (.mv (.c (I 0))),cm 10 14]) (.seq (.block 0 [0,1,2,8,9] (.loop [0,1,2,8,9,10] [] bv)) (.seq (.ops [6,7] [cm 35 9,cm 36 9,cm 37 8,b2 38 .lss 36 37,cm 39 38,cg 40 39 true (.mv (.t 2)),cg 41 39 true (.mv (.t 0)),cg 42 39 true (.mv (.t 9)),cg 43 39 true (.iadrS 4 (.t 41) (.t 42)),⟨(some 44),(some (39,true)),.load 4 true (.t 43)⟩,cg 45 39 true (.mv (.t 1)),⟨(some 46),(some (39,true)),.call (.t 40) [.t 44,.t 45]⟩,cg 47 39 true (.bin .eql (.t 46) (.c (I 0))),co 48 (.pick (.t 39) (.t 47) (.c (B false))),cm 6 35,cm 7 48]) (.ret)))))
def cq:FD:=⟨3,[[],[]],[.t 6,.t 7],dQ⟩
def pz:Cmd:=.seq (.ops [1,2] [bx 2 4 (.t 0),co 4 (.mv (.c (I 0)))]) (.seq (.ops [4] [fa 5 0 2,ld 6 1 5,cm 7 1,ca 8 F.poly_order [.t 6,.t 7],cm 4 8]) (.ret))
def jD:FD:=⟨2,[[]],[.t 4],pz⟩
def cj:Cmd:=.seq (.ops [0,1,2] [co 6 (.mv (.c .emp))]) (.seq (.ops [0,1,2] [cm 10 0,cm 11 1,co 12 (.slc 4 (.t 10) (some (.t 11)) none none)]) (.seq (.ops [0,1,2,7] [cm 13 2,co 14 (.len false (.t 13)),cm 7 14]) (.seq (.seq (.ops [0,1,2,7,16] [cm 15 7,co 16 (.bin .eql (.t 15) (.c (I 0)))]) (.cond (.t 16) (.seq (.ops [6] [cm 17 0,cm 6 17]) (.ret)) (.skip))) (.seq (.ops [0,1,2,7,8] [cm 18 0,co 19 (.len false (.t 18)),cm 8 19]) (.seq (.seq (.ops [0,1,2,7,8,22] [cm 20 1,cm 21 8,b2 22 .eql 20 21]) (.cond (.t 22) (.seq (.ops [6] [cm 23 0,cm 24 2,⟨(some 25),none,.app 4 64 (.t 23) (.t 24)⟩,cm 6 25]) (.ret)) (.skip))) (.seq (.seq (.ops [0,1,2,7,8,31] [cm 26 8,cm 27 7,b2 28 .add 26 27,cm 29 0,co 30 (.capp (.t 29)),b2 31 .gtr 28 30]) (.cond (.t 31) (.seq (.ops [0,1,2,7,9] [cm 32 0,cm 33 1,co 34 (.slc 4 (.t 32) none (some (.t 33)) none),cm 35 8,cm 36 7,b2 37 .add 35 36,cm 38 1,b2 39 .sub 37 38,⟨(some 40),none,.appz 4 64 [.emp,B false,.emp,I 0] (.t 34) (.t 39)⟩,cm 9 40]) (.seq (.ops [0,1,7,9] [cm 41 9,cm 42 1,co 43 (.slc 4 (.t 41) (some (.t 42)) none none),cm 44 2,⟨(some 45),none,.cpy 4 (.t 43) (.t 44)⟩]) (.seq (.dops [9] [cm 46 9,cm 47 1,cm 48 7,b2 49 .add 47 48,co 50 (.slc 4 (.t 46) (some (.t 49)) none none),cm 51 0,cm 52 1,co 53 (.slc 4 (.t 51) (some (.t 52)) none none),⟨(some 54),none,.cpy 4 (.t 50) (.t 53)⟩] []) (.seq (.ops [6] [cm 55 9,cm 6 55]) (.ret))))) (.skip))) (.seq (.ops [0,1,2,7,8] [cm 56 0,cm 57 8,cm 58 7,b2 59 .add 57 58,co 60 (.slc 4 (.t 56) none (some (.t 59)) none),cm 0 60]) (.seq (.seq (.ops [0,1,2,7,8,68] [cm 61 2,cm 62 0,cm 63 1,cm 64 7,b2 65 .add 63 64,co 66 (.slc 4 (.t 62) (some (.t 65)) none none),ca 67 F.slices_overlaps_api_Term_ [.t 61,.t 66],co 68 (.un .not (.t 67))]) (.cond (.t 68) (.seq (.dops [0,1,2] [cm 69 0,cm 70 1,cm 71 7,b2 72 .add 70 71,co 73 (.slc 4 (.t 69) (some (.t 72)) none none),cm 74 0,cm 75 1,co 76 (.slc 4 (.t 74) (some (.t 75)) none none),⟨(some 77),none,.cpy 4 (.t 73) (.t 76)⟩] []) (.seq (.ops [0] [cm 78 0,cm 79 1,co 80 (.slc 4 (.t 78) (some (.t 79)) none none),cm 81 2,⟨(some 82),none,.cpy 4 (.t 80) (.t 81)⟩]) (.seq (.frz [200000] (.ops [6] [cm 83 0,cm 6 83])) (.ret)))) (.skip))) (.seq (.ops [0,1,7] [cm 84 0,cm 85 8,co 86 (.slc 4 (.t 84) (some (.t 85)) none none),cm 87 2,⟨(some 88),none,.cpy 4 (.t 86) (.t 87)⟩]) (.seq (.ops [0] [cm 89 0,cm 90 1,co 91 (.slc 4 (.t 89) (some (.t 90)) none none),cm 92 7,ca 93 F.slices_rotateRight_api_Term_ [.t 91,.t 92]]) (.seq (.ops [6] [cm 94 0,cm 6 94]) (.ret))))))))))))
def bh:FD:=⟨3,[[]],[.t 6],cj⟩
def AD:Cmd:=.seq (.ops [1,2] [bx 1 3 (.t 0),al 2 [B false,.emp,I 0]]) (.seq (.ops [1,2] [fa 3 1 1,ld 4 1 3,ca 5 F.slices_Clone_uint32_uint32_ [.t 4],fa 6 1 1,sr 1 (.t 6) (.t 5)]) (.seq (.ops [2] [la 7 3 1,sr 3 (.t 2) (.t 7)]) (.ret)))
def sn:FD:=⟨1,[[.o 0 [],.o 2 [],.o 0 []]],[.cell 2 3 true],AD⟩
def io:Cmd:=.seq (.ops [0,1,2] [co 6 (.mv (.c .emp))]) (.seq (.ops [0,1,2] [cm 8 0,cm 9 1,cm 10 2,cm 11 0,co 12 (.len false (.t 11)),co 13 (.slc 4 (.t 8) (some (.t 9)) (some (.t 10)) (some (.t 12)))]) (.seq (.seq (.ops [0,1,2,16] [cm 14 1,cm 15 2,b2 16 .eql 14 15]) (.cond (.t 16) (.seq (.ops [6] [cm 17 0,cm 6 17]) (.ret)) (.skip))) (.seq (.ops [0,1,2,7] [cm 18 0,co 19 (.len false (.t 18)),cm 7 19]) (.seq (.dops [0,7] [cm 20 0,cm 21 1,co 22 (.slc 4 (.t 20) none (some (.t 21)) none),cm 23 0,cm 24 2,co 25 (.slc 4 (.t 23) (some (.t 24)) none none),⟨(some 26),none,.app 4 64 (.t 22) (.t 25)⟩,cm 0 26] []) (.seq (.ops [0] [cm 27 0,cm 28 0,co 29 (.len false (.t 28)),cm 30 7,⟨(some 31),none,.slcM 4 (.t 27) (some (.t 29)) (some (.t 30))⟩,⟨none,none,.clr 4 [.emp,B false,.emp,I 0] (.t 31)⟩]) (.seq (.frz [100000,200000] (.ops [6] [cm 32 0,cm 6 32])) (.ret)))))))
def ef:FD:=⟨3,[[]],[.t 6],io⟩
def ud:Cmd:=.seq (.ops [1,2,3,6] [bx 3 3 (.t 0),al 6 [B false,.emp,I 0],co 7 (.mv (.c (I 0)))]) (.seq (.seq (.ops [1,2,3,6,8] [cm 9 1,la 10 3 3,⟨(some 11),none,.buildSl 3 [B false,.emp,I 0] 1 [(0,.t 10)]⟩,ca 12 F.round_fault [.t 9,.t 11],cm 8 12]) (.seq (.ops [1,2,3,6,8,14] [cm 13 8,co 14 (.bin .neq (.t 13) (.c (I 0)))]) (.cond (.t 14) (.seq (.ops [6,7] [co 15 (.build [B false,.emp,I 0] []),cm 16 8,sr 3 (.t 6) (.t 15),cm 7 16]) (.ret)) (.skip)))) (.seq (.dops [6,7] [fa 17 0 3,ld 18 1 17,la 19 3 3,ca 20 F.round_of [.t 19],cm 21 1,cm 22 2,ca 23 F.round_signed [.t 18,.t 20,.t 21,.t 22],co 24 (.ext 0 (.t 23)),co 25 (.ext 1 (.t 23)),sr 3 (.t 6) (.t 24),cm 7 25] [(1,3)]) (.ret)))
def og:FD:=⟨3,[[.o 0 [],.o 2 [],.o 0 []],[]],[.cell 6 3 true,.t 7],ud⟩
def rh:Cmd:=.seq (.seq (.ops [0,3,4,8] [cm 5 4,cm 6 0,co 7 (.len false (.t 6)),b2 8 .lss 5 7]) (.cond (.t 8) (.skip) (.exit 0))) (.seq (.block 1 [0,3,4] (.ops [0,3,4] [cm 11 3,cm 12 0,cm 13 4,co 14 (.iadrS 1 (.t 12) (.t 13)),ld 15 1 14,b2 16 .add 11 15,cm 3 16])) (.ops [0,3,4] [cm 9 4,co 10 (.bin .add (.t 9) (.c (I 1))),cm 4 10]))
def Me:Cmd:=.seq (.ops [0] [co 2 (.mv (.c (I 0)))]) (.seq (.ops [0,3] [co 3 (.mv (.c (I 0)))]) (.seq (.seq (.ops [0,3,4] [co 4 (.mv (.c (I 0)))]) (.block 0 [3] (.loop [0,3,4] [] rh))) (.seq (.ops [2] [cm 17 3,cm 2 17]) (.ret))))
def zM:FD:=⟨1,[[]],[.t 2],Me⟩
def pA:Cmd:=.seq (.ops [2,3,4,5,8] [bx 4 3 (.t 0),bx 5 3 (.t 1),al 8 [B false,.emp,I 0],co 9 (.mv (.c (I 0)))]) (.seq (.seq (.ops [2,3,4,5,8,10] [cm 13 2,la 14 3 4,la 15 3 5,⟨(some 16),none,.buildSl 3 [B false,.emp,I 0] 2 [(0,.t 14),(1,.t 15)]⟩,ca 17 F.round_fault [.t 13,.t 16],cm 10 17]) (.seq (.ops [2,3,4,5,8,10,19] [cm 18 10,co 19 (.bin .neq (.t 18) (.c (I 0)))]) (.cond (.t 19) (.seq (.ops [8,9] [co 20 (.build [B false,.emp,I 0] []),cm 21 10,sr 3 (.t 8) (.t 20),cm 9 21]) (.ret)) (.skip)))) (.seq (.block 0 [2,3,4,5,8] (.seq (.ops [2,3,4,5,8,22] [fa 23 1 4,ld 24 1 23,co 25 (.len false (.t 24)),co 26 (.bin .eql (.t 25) (.c (I 0))),cm 22 26]) (.cond (.t 22) (.seq (.ops [8,9] [la 27 3 5,cm 28 2,cm 29 3,ca 30 F.round_round [.t 27,.t 28,.t 29],co 31 (.ext 0 (.t 30)),co 32 (.ext 1 (.t 30)),sr 3 (.t 8) (.t 31),cm 9 32]) (.ret)) (.seq (.ops [2,3,4,5,8,33] [fa 34 1 5,ld 35 1 34,co 36 (.len false (.t 35)),co 37 (.bin .eql (.t 36) (.c (I 0))),cm 33 37]) (.cond (.t 33) (.seq (.ops [8,9] [la 38 3 4,cm 39 2,cm 40 3,ca 41 F.round_round [.t 38,.t 39,.t 40],co 42 (.ext 0 (.t 41)),co 43 (.ext 1 (.t 41)),sr 3 (.t 8) (.t 42),cm 9 43]) (.ret)) (.skip)))))) (.seq (.seq (.dops [2,3,4,5,8,48] [la 44 3 4,ca 45 F.dyadic_Top [.t 44],la 46 3 5,ca 47 F.dyadic_Top [.t 46],b2 48 .lss 45 47] [(1,2)]) (.cond (.t 48) (.ops [2,3,4,5,8] [la 49 3 5,la 50 3 4,sr 3 (.t 4) (.t 49),sr 3 (.t 5) (.t 50)]) (.skip))) (.seq (.ops [2,3,4,8,11,12] [la 52 3 4,la 53 3 5,cm 54 2,ca 55 F.round_sum [.t 52,.t 53,.t 54],cm 51 55,co 56 (.ext 0 (.t 51)),co 57 (.ext 1 (.t 51)),al 11 [.emp,I 0,B false],sr 3 (.t 11) (.t 56),cm 12 57]) (.seq (.seq (.ops [2,3,4,8,11,12,66] [fa 58 0 11,ld 59 1 58,co 60 (.len false (.t 59)),co 61 (.bin .eql (.t 60) (.c (I 0))),cm 62 61,cg 63 62 true (.fadr 2 (.t 11)),⟨(some 64),(some (62,true)),.load 1 false (.t 63)⟩,cg 65 62 true (.un .not (.t 64)),co 66 (.pick (.t 62) (.t 65) (.c (B false)))]) (.cond (.t 66) (.seq (.ops [8,9] [co 67 (.build [B false,.emp,I 0] []),sr 3 (.t 8) (.t 67),co 9 (.mv (.c (I 0)))]) (.ret)) (.skip))) (.seq (.ops [8,9] [fa 68 0 4,ld 69 1 68,cm 70 12,co 71 (.eqc true 0 (.t 69) (.t 70)),la 72 3 11,cm 73 2,cm 74 3,ca 75 F.round_signed [.t 71,.t 72,.t 73,.t 74],co 76 (.ext 0 (.t 75)),co 77 (.ext 1 (.t 75)),sr 3 (.t 8) (.t 76),cm 9 77]) (.ret)))))))
def jk:FD:=⟨4,[[.o 0 [],.o 2 [],.o 0 []],[]],[.cell 8 3 true,.t 9],pA⟩
def AE:Cmd:=.seq (.ops [0] [co 2 (.mv (.c (I 0)))]) (.seq (.ops [2] [cm 3 0,ca 4 F.natural_Bits [.t 3],cm 2 4]) (.ret))
def so:FD:=⟨1,[[]],[.t 2],AE⟩
def ue:Cmd:=.seq (.ops [0,1] [co 4 (.mv (.c .emp)),co 5 (.mv (.c (I 0)))]) (.seq (.seq (.ops [0,1,9] [cm 6 0,cm 7 1,⟨(some 8),none,.buildSl 1 [.emp] 2 [(0,.t 6),(1,.t 7)]⟩,ca 9 F.natural_long [.t 8]]) (.cond (.t 9) (.seq (.ops [4,5] [co 4 (.mv (.c .emp)),co 5 (.mv (.c (I 9)))]) (.ret)) (.skip))) (.seq (.ops [4,5] [cm 10 0,ca 11 F.natural_trim [.t 10],cm 12 1,ca 13 F.natural_trim [.t 12],ca 14 F.natural_mul [.t 11,.t 13],ca 15 F.natural_done [.t 14],co 16 (.ext 0 (.t 15)),co 17 (.ext 1 (.t 15)),cm 4 16,cm 5 17]) (.ret)))
def oi:FD:=⟨2,[[.o 2 []],[]],[.t 4,.t 5],ue⟩
def qf:Cmd:=.seq (.ops [1,2] [bx 1 3 (.t 0),al 2 [B false,.emp,I 0],co 3 (.mv (.c (I 0)))]) (.seq (.seq (.ops [1,2,6] [la 4 3 1,ca 5 F.dyadic_inRange [.t 4],co 6 (.un .not (.t 5))]) (.cond (.t 6) (.seq (.ops [2,3] [co 7 (.build [B false,.emp,I 0] []),sr 3 (.t 2) (.t 7),co 3 (.mv (.c (I 9)))]) (.ret)) (.skip))) (.seq (.ops [2,3] [la 8 3 1,sr 3 (.t 2) (.t 8),co 3 (.mv (.c (I 0)))]) (.ret)))
def ku:FD:=⟨1,[[.o 0 [],.o 2 [],.o 0 []],[]],[.cell 2 3 true,.t 3],qf⟩
def nG:Cmd:=.seq (.ops [0,1,2,6] [al 6 [B false,.emp,I 0]]) (.seq (.ops [0,1,2,6] [cm 10 1,ca 11 F.dyadic_trimmed [.t 10],cm 1 11]) (.seq (.seq (.ops [0,1,2,6,14] [cm 12 1,co 13 (.len false (.t 12)),co 14 (.bin .eql (.t 13) (.c (I 0)))]) (.cond (.t 14) (.seq (.ops [6] [co 15 (.build [B false,.emp,I 0] []),sr 3 (.t 6) (.t 15)]) (.ret)) (.skip))) (.seq (.ops [0,1,2,6,7] [cm 16 1,ca 17 F.dyadic_low [.t 16],cm 7 17]) (.seq (.ops [0,2,6,7,8] [cm 19 1,cm 20 7,ca 21 F.natural_Shr [.t 19,.t 20],cm 18 21,co 22 (.ext 0 (.t 18)),co 23 (.ext 1 (.t 18)),cm 8 22,cm 9 23]) (.seq (.ops [6] [cm 24 0,cm 25 8,ca 26 F.slices_Clone_uint32_uint32_ [.t 25],ca 27 F.slices_Clip_uint32_uint32_ [.t 26],cm 28 2,cm 29 7,b2 30 .add 28 29,co 31 (.build [B false,.emp,I 0] [(0,1,.t 24),(1,1,.t 27),(2,1,.t 30)]),sr 3 (.t 6) (.t 31)]) (.ret))))))
def jv:FD:=⟨3,[[.o 0 [],.o 2 [],.o 0 []]],[.cell 6 3 true],nG⟩
def ri:Cmd:=.seq (.ops [1,2] [bx 1 3 (.t 0),al 2 [B false,.emp,I 0]]) (.seq (.seq (.ops [1,2,11] [la 3 3 1,ca 4 F.dyadic_Valid [.t 3],co 5 (.un .not (.t 4)),cm 6 5,cg 7 6 false (.fadr 1 (.t 1)),⟨(some 8),(some (6,false)),.load 1 false (.t 7)⟩,cg 9 6 false (.len false (.t 8)),cg 10 6 false (.bin .eql (.t 9) (.c (I 0))),co 11 (.pick (.t 6) (.c (B true)) (.t 10))]) (.cond (.t 11) (.seq (.ops [2] [co 12 (.build [B false,.emp,I 0] []),sr 3 (.t 2) (.t 12)]) (.ret)) (.skip))) (.seq (.dops [2] [fa 13 0 1,ld 14 1 13,co 15 (.un .not (.t 14)),fa 16 1 1,ld 17 1 16,ca 18 F.slices_Clone_uint32_uint32_ [.t 17],fa 19 2 1,ld 20 1 19,co 21 (.build [B false,.emp,I 0] [(0,1,.t 15),(1,1,.t 18),(2,1,.t 20)]),sr 3 (.t 2) (.t 21)] [(1,5),(5,7)]) (.ret)))
def mp:FD:=⟨1,[[.o 0 [],.o 2 [],.o 0 []]],[.cell 2 3 true],ri⟩
def pB:Cmd:=.seq (.ops [2,3,4,5,8] [bx 4 3 (.t 0),bx 5 3 (.t 1),al 8 [B false,.emp,I 0],co 9 (.mv (.c (I 0)))]) (.seq (.seq (.ops [2,3,4,5,8,10] [cm 13 2,la 14 3 4,la 15 3 5,⟨(some 16),none,.buildSl 3 [B false,.emp,I 0] 2 [(0,.t 14),(1,.t 15)]⟩,ca 17 F.round_fault [.t 13,.t 16],cm 10 17]) (.seq (.ops [2,3,4,5,8,10,19] [cm 18 10,co 19 (.bin .neq (.t 18) (.c (I 0)))]) (.cond (.t 19) (.seq (.ops [8,9] [co 20 (.build [B false,.emp,I 0] []),cm 21 10,sr 3 (.t 8) (.t 20),cm 9 21]) (.ret)) (.skip)))) (.seq (.seq (.ops [2,3,4,5,8,31] [fa 22 1 4,ld 23 1 22,co 24 (.len false (.t 23)),co 25 (.bin .eql (.t 24) (.c (I 0))),cm 26 25,cg 27 26 false (.fadr 1 (.t 5)),⟨(some 28),(some (26,false)),.load 1 false (.t 27)⟩,cg 29 26 false (.len false (.t 28)),cg 30 26 false (.bin .eql (.t 29) (.c (I 0))),co 31 (.pick (.t 26) (.c (B true)) (.t 30))]) (.cond (.t 31) (.seq (.ops [8,9] [co 32 (.build [B false,.emp,I 0] []),sr 3 (.t 8) (.t 32),co 9 (.mv (.c (I 0)))]) (.ret)) (.skip))) (.seq (.ops [2,3,4,5,8,11] [fa 34 1 4,ld 35 1 34,fa 36 1 5,ld 37 1 36,ca 38 F.natural_Mul [.t 35,.t 37],cm 33 38,co 39 (.ext 0 (.t 33)),co 40 (.ext 1 (.t 33)),cm 11 39,cm 12 40]) (.seq (.ops [8,9] [fa 41 0 4,ld 42 1 41,fa 43 0 5,ld 44 1 43,co 45 (.eqc true 0 (.t 42) (.t 44)),cm 46 11,fa 47 2 4,ld 48 1 47,fa 49 2 5,ld 50 1 49,b2 51 .add 48 50,co 52 (.build [.emp,I 0,B false] [(0,1,.t 46),(1,1,.t 51)]),cm 53 2,cm 54 3,ca 55 F.round_signed [.t 45,.t 52,.t 53,.t 54],co 56 (.ext 0 (.t 55)),co 57 (.ext 1 (.t 55)),sr 3 (.t 8) (.t 56),cm 9 57]) (.ret)))))
def kJ:FD:=⟨4,[[.o 0 [],.o 2 [],.o 0 []],[]],[.cell 8 3 true,.t 9],pB⟩
def sq:Cmd:=.seq (.ops [1,2] [bx 1 7 (.t 0),al 2 [B false,.emp,I 0,B false,.emp,I 0,B false]]) (.seq (.seq (.ops [1,2,10] [la 7 7 1,⟨(some 8),none,.buildSl 7 [B false,.emp,I 0,B false,.emp,I 0,B false] 1 [(0,.t 7)]⟩,ca 9 F.interval_known [.t 8],co 10 (.un .not (.t 9))]) (.cond (.t 10) (.seq (.ops [2] [ca 11 F.interval_Whole [],sr 7 (.t 2) (.t 11)]) (.ret)) (.skip))) (.seq (.ops [1,2,3] [la 13 7 1,ca 14 F.interval_Mig [.t 13],cm 12 14,co 15 (.ext 0 (.t 12)),co 16 (.ext 1 (.t 12)),al 3 [B false,.emp,I 0],sr 3 (.t 3) (.t 15),cm 4 16]) (.seq (.ops [2,3,5] [la 18 7 1,ca 19 F.interval_Mag [.t 18],cm 17 19,co 20 (.ext 0 (.t 17)),co 21 (.ext 1 (.t 17)),al 5 [B false,.emp,I 0],sr 3 (.t 5) (.t 20),cm 6 21]) (.seq (.ops [2] [la 22 3 3,la 23 3 5,co 24 (.build [B false,.emp,I 0,B false,.emp,I 0,B false] [(0,3,.t 22),(3,3,.t 23)]),sr 7 (.t 2) (.t 24)]) (.ret)))))
def mX:FD:=⟨1,[[.o 0 [],.o 2 [],.o 0 [],.o 0 [],.o 2 [],.o 0 [],.o 0 []]],[.cell 2 7 true],sq⟩
def oj:Cmd:=.seq (.ops [1,2,3,4,8] [bx 4 3 (.t 0),al 8 [B false,.emp,I 0],co 9 (.mv (.c (I 0)))]) (.seq (.seq (.ops [1,2,3,4,8,14] [la 12 3 4,ca 13 F.dyadic_Sign [.t 12],co 14 (.bin .lss (.t 13) (.c (I 0)))]) (.cond (.t 14) (.seq (.ops [8,10,11] [la 16 3 4,ca 17 F.dyadic_Neg [.t 16],cm 18 1,cm 19 2,cm 20 3,co 21 (.un .not (.t 20)),ca 22 F.interval_end [.t 17,.t 18,.t 19,.t 21],cm 15 22,co 23 (.ext 0 (.t 15)),co 24 (.ext 1 (.t 15)),al 10 [B false,.emp,I 0],sr 3 (.t 10) (.t 23),cm 11 24]) (.seq (.ops [8,9] [la 25 3 10,ca 26 F.dyadic_Neg [.t 25],cm 27 11,sr 3 (.t 8) (.t 26),cm 9 27]) (.ret))) (.skip))) (.seq (.seq (.ops [1,2,4,8,28] [cm 28 3]) (.cond (.t 28) (.seq (.ops [8,9] [la 29 3 4,cm 30 1,cm 31 2,ca 32 F.interval_power [.t 29,.t 30,.t 31,.c (.fn F.round_Up [] []),.c (.fn F.round_MulUp [] [])],co 33 (.ext 0 (.t 32)),co 34 (.ext 1 (.t 32)),sr 3 (.t 8) (.t 33),cm 9 34]) (.ret)) (.skip))) (.seq (.ops [8,9] [la 35 3 4,cm 36 1,cm 37 2,ca 38 F.interval_power [.t 35,.t 36,.t 37,.c (.fn F.round_Down [] []),.c (.fn F.round_MulDown [] [])],co 39 (.ext 0 (.t 38)),co 40 (.ext 1 (.t 38)),sr 3 (.t 8) (.t 39),cm 9 40]) (.ret))))
def jY:FD:=⟨4,[[.o 0 [],.o 2 [],.o 0 []],[]],[.cell 8 3 true,.t 9],oj⟩
def WE:Cmd:=.seq (.ops [0,1] [co 4 (.mv (.c (W 0))),co 5 (.mv (.c (W 0)))]) (.seq (.cond (.c (B false)) (.seq (.ops [6,7] [cm 11 0,co 12 (.cv .u32 (.t 11)),cm 13 1,co 14 (.cv .u32 (.t 13)),ca 15 F.bits_Mul32 [.t 12,.t 14],cm 10 15,co 16 (.ext 0 (.t 10)),co 17 (.ext 1 (.t 10)),cm 6 16,cm 7 17]) (.seq (.ops [4,5] [cm 18 6,co 19 (.cv .u64 (.t 18)),cm 20 7,co 21 (.cv .u64 (.t 20)),cm 4 19,cm 5 21]) (.ret))) (.skip)) (.seq (.ops [8,9] [cm 23 0,cm 24 1,ca 25 F.bits_Mul64 [.t 23,.t 24],cm 22 25,co 26 (.ext 0 (.t 22)),co 27 (.ext 1 (.t 22)),cm 8 26,cm 9 27]) (.seq (.ops [4,5] [cm 28 8,cm 29 9,cm 4 28,cm 5 29]) (.ret))))
def Tq:FD:=⟨2,[[],[]],[.t 4,.t 5],WE⟩
def mY:Cmd:=.seq (.ops [1] [bx 1 7 (.t 0),co 2 (.mv (.c (I 0)))]) (.seq (.block 0 [] (.seq (.ops [1,3] [la 4 7 1,⟨(some 5),none,.buildSl 7 [B false,.emp,I 0,B false,.emp,I 0,B false] 1 [(0,.t 4)]⟩,ca 6 F.interval_known [.t 5],co 7 (.un .not (.t 6)),cm 3 7]) (.cond (.t 3) (.seq (.ops [2] [co 2 (.mv (.c (I 0)))]) (.ret)) (.seq (.ops [1,8] [fa 9 0 1,la 10 3 9,ca 11 F.dyadic_Sign [.t 10],co 12 (.bin .gtr (.t 11) (.c (I 0))),cm 8 12]) (.cond (.t 8) (.seq (.ops [2] [co 2 (.mv (.c (I 1)))]) (.ret)) (.seq (.ops [13] [fa 14 3 1,la 15 3 14,ca 16 F.dyadic_Sign [.t 15],co 17 (.bin .lss (.t 16) (.c (I 0))),cm 13 17]) (.cond (.t 13) (.seq (.ops [2] [co 2 (.mv (.c (I (-1))))]) (.ret)) (.skip)))))))) (.seq (.ops [2] [co 2 (.mv (.c (I 0)))]) (.ret)))
def jl:FD:=⟨1,[[]],[.t 2],mY⟩
def Hu:Cmd:=.seq (.ops [2,3,4,6] [bx 3 3 (.t 0),bx 4 3 (.t 1),al 6 [B false,.emp,I 0],co 7 (.mv (.c (I 0)))]) (.seq (.ops [6,7] [la 8 3 3,la 9 3 4,cm 10 2,ca 11 F.round_div [.t 8,.t 9,.t 10,.c (B false)],co 12 (.ext 0 (.t 11)),co 13 (.ext 1 (.t 11)),sr 3 (.t 6) (.t 12),cm 7 13]) (.ret))
def EZ:FD:=⟨3,[[.o 0 [],.o 2 [],.o 0 []],[]],[.cell 6 3 true,.t 7],Hu⟩
def MJ:Cmd:=.seq (.ops [2,3,4,6] [bx 3 3 (.t 0),bx 4 3 (.t 1),al 6 [B false,.emp,I 0],co 7 (.mv (.c (I 0)))]) (.seq (.ops [6,7] [la 8 3 3,la 9 3 4,cm 10 2,ca 11 F.round_div [.t 8,.t 9,.t 10,.c (B true)],co 12 (.ext 0 (.t 11)),co 13 (.ext 1 (.t 11)),sr 3 (.t 6) (.t 12),cm 7 13]) (.ret))
def JC:FD:=⟨3,[[.o 0 [],.o 2 [],.o 0 []],[]],[.cell 6 3 true,.t 7],MJ⟩
def pP:Cmd:=.seq (.seq (.ops [0,1,5,6,7,15] [cm 12 7,cm 13 0,co 14 (.len false (.t 13)),b2 15 .lss 12 14]) (.cond (.t 15) (.skip) (.exit 0))) (.seq (.block 1 [0,1,5,6,7] (.seq (.ops [0,1,5,7,8] [cm 18 0,cm 19 7,co 20 (.iadrS 1 (.t 18) (.t 19)),ld 21 1 20,co 22 (.cv .u64 (.t 21)),cm 23 1,co 24 (.bin .rem (.t 23) (.c (I 32))),co 25 (.cv .u64 (.t 24)),b2 26 .shl 22 25,cm 27 6,b2 28 .or 26 27,cm 8 28]) (.seq (.ops [0,1,5,7,8] [cm 29 5,cm 30 8,co 31 (.bin .and (.t 30) (.c (W 4294967295))),co 32 (.cv .u32 (.t 31)),⟨(some 33),none,.buildSl 1 [U 0] 1 [(0,.t 32)]⟩,⟨(some 34),none,.app 1 4 (.t 29) (.t 33)⟩,cm 5 34]) (.ops [0,1,5,6,7] [cm 35 8,co 36 (.bin .shr (.t 35) (.c (W 32))),cm 6 36])))) (.ops [0,1,5,6,7] [cm 16 7,co 17 (.bin .add (.t 16) (.c (I 1))),cm 7 17]))
def Hv:Cmd:=.seq (.ops [0,1] [co 4 (.mv (.c .emp))]) (.seq (.ops [0,1,5] [cm 9 1,co 10 (.bin .quo (.t 9) (.c (I 32))),⟨(some 11),none,.mkSl 1 [U 0] 4 (.t 10) (.t 10)⟩,cm 5 11]) (.seq (.ops [0,1,5,6] [co 6 (.mv (.c (W 0)))]) (.seq (.seq (.ops [0,1,5,6,7] [co 7 (.mv (.c (I 0)))]) (.block 0 [5,6] (.loop [0,1,5,6,7] [11,34] pP))) (.seq (.ops [4] [cm 37 5,cm 38 6,co 39 (.cv .u32 (.t 38)),⟨(some 40),none,.buildSl 1 [U 0] 1 [(0,.t 39)]⟩,⟨(some 41),none,.app 1 4 (.t 37) (.t 40)⟩,ca 42 F.r02_trim [.t 41],cm 4 42]) (.ret)))))
def xQ:FD:=⟨2,[[.o 2 []]],[.t 4],Hv⟩
def dc:Cmd:=.seq (.seq (.ops [0,1,5,6,7,18] [cm 9 7,cm 10 0,co 11 (.len false (.t 10)),b2 12 .lss 9 11,cm 13 12,cg 14 13 false (.mv (.t 7)),cg 15 13 false (.mv (.t 1)),cg 16 13 false (.len false (.t 15)),cg 17 13 false (.bin .lss (.t 14) (.t 16)),co 18 (.pick (.t 13) (.c (B true)) (.t 17))]) (.cond (.t 18) (.skip) (.exit 0))) (.seq (.block 1 [0,1,5,6,7] (.seq (.ops [0,1,5,7,8] [cm 21 6,cm 8 21]) (.seq (.seq (.ops [0,1,5,7,8,25] [cm 22 7,cm 23 0,co 24 (.len false (.t 23)),b2 25 .lss 22 24]) (.cond (.t 25) (.ops [0,1,5,7,8] [cm 26 8,cm 27 0,cm 28 7,co 29 (.iadrS 1 (.t 27) (.t 28)),ld 30 1 29,co 31 (.cv .u64 (.t 30)),b2 32 .add 26 31,cm 8 32]) (.skip))) (.seq (.seq (.ops [0,1,5,7,8,36] [cm 33 7,cm 34 1,co 35 (.len false (.t 34)),b2 36 .lss 33 35]) (.cond (.t 36) (.ops [0,1,5,7,8] [cm 37 8,cm 38 1,cm 39 7,co 40 (.iadrS 1 (.t 38) (.t 39)),ld 41 1 40,co 42 (.cv .u64 (.t 41)),b2 43 .add 37 42,cm 8 43]) (.skip))) (.seq (.ops [0,1,5,7,8] [cm 44 5,cm 45 8,co 46 (.bin .and (.t 45) (.c (W 4294967295))),co 47 (.cv .u32 (.t 46)),⟨(some 48),none,.buildSl 1 [U 0] 1 [(0,.t 47)]⟩,⟨(some 49),none,.app 1 4 (.t 44) (.t 48)⟩,cm 5 49]) (.ops [0,1,5,6,7] [cm 50 8,co 51 (.bin .shr (.t 50) (.c (W 32))),cm 6 51])))))) (.ops [0,1,5,6,7] [cm 19 7,co 20 (.bin .add (.t 19) (.c (I 1))),cm 7 20]))
def Hw:Cmd:=.seq (.ops [0,1] [co 4 (.mv (.c .emp))]) (.seq (.ops [0,1,5] [co 5 (.mv (.c .emp))]) (.seq (.ops [0,1,5,6] [co 6 (.mv (.c (W 0)))]) (.seq (.seq (.ops [0,1,5,6,7] [co 7 (.mv (.c (I 0)))]) (.block 0 [5,6] (.loop [0,1,5,6,7] [49] dc))) (.seq (.ops [4] [cm 52 5,cm 53 6,co 54 (.cv .u32 (.t 53)),⟨(some 55),none,.buildSl 1 [U 0] 1 [(0,.t 54)]⟩,⟨(some 56),none,.app 1 4 (.t 52) (.t 55)⟩,ca 57 F.r02_trim [.t 56],cm 4 57]) (.ret)))))
def xR:FD:=⟨2,[[.o 2 []]],[.t 4],Hw⟩
def dB:Cmd:=.seq (.seq (.ops [0,1,5,6,7,13] [cm 10 7,cm 11 0,co 12 (.len false (.t 11)),b2 13 .lss 10 12]) (.cond (.t 13) (.skip) (.exit 0))) (.seq (.block 1 [0,1,5,6,7] (.seq (.ops [0,1,5,7,8] [cm 16 6,cm 8 16]) (.seq (.seq (.ops [0,1,5,7,8,20] [cm 17 7,cm 18 1,co 19 (.len false (.t 18)),b2 20 .lss 17 19]) (.cond (.t 20) (.ops [0,1,5,7,8] [cm 21 8,cm 22 1,cm 23 7,co 24 (.iadrS 1 (.t 22) (.t 23)),ld 25 1 24,co 26 (.cv .u64 (.t 25)),b2 27 .add 21 26,cm 8 27]) (.skip))) (.seq (.ops [0,1,5,7,9] [cm 28 0,cm 29 7,co 30 (.iadrS 1 (.t 28) (.t 29)),ld 31 1 30,co 32 (.cv .u64 (.t 31)),co 33 (.bin .add (.t 32) (.c (W 4294967296))),cm 34 8,b2 35 .sub 33 34,cm 9 35]) (.seq (.ops [0,1,5,7,9] [cm 36 5,cm 37 9,co 38 (.bin .and (.t 37) (.c (W 4294967295))),co 39 (.cv .u32 (.t 38)),⟨(some 40),none,.buildSl 1 [U 0] 1 [(0,.t 39)]⟩,⟨(some 41),none,.app 1 4 (.t 36) (.t 40)⟩,cm 5 41]) (.ops [0,1,5,6,7] [cm 42 9,co 43 (.bin .shr (.t 42) (.c (W 32))),co 44 (.bin .sub (.c (W 1)) (.t 43)),cm 6 44])))))) (.ops [0,1,5,6,7] [cm 14 7,co 15 (.bin .add (.t 14) (.c (I 1))),cm 7 15]))
def EC:Cmd:=.seq (.ops [0,1] [co 4 (.mv (.c .emp))]) (.seq (.ops [0,1,5] [co 5 (.mv (.c .emp))]) (.seq (.ops [0,1,5,6] [co 6 (.mv (.c (W 0)))]) (.seq (.seq (.ops [0,1,5,6,7] [co 7 (.mv (.c (I 0)))]) (.block 0 [5] (.loop [0,1,5,6,7] [41] dB))) (.seq (.ops [4] [cm 45 5,ca 46 F.r02_trim [.t 45],cm 4 46]) (.ret)))))
def wl:FD:=⟨2,[[.o 2 []]],[.t 4],EC⟩
def AF:Cmd:=.seq (.seq (.ops [0,3,15] [cm 6 3,co 7 (.bin .gtr (.t 6) (.c (I 0))),cm 8 7,cg 9 8 true (.mv (.t 0)),cg 10 8 true (.mv (.t 3)),cg 11 8 true (.bin .sub (.t 10) (.c (I 1))),cg 12 8 true (.iadrS 1 (.t 9) (.t 11)),⟨(some 13),(some (8,true)),.load 1 false (.t 12)⟩,cg 14 8 true (.bin .eql (.t 13) (.c (U 0))),co 15 (.pick (.t 8) (.t 14) (.c (B false)))]) (.cond (.t 15) (.skip) (.exit 0))) (.block 1 [0,3] (.ops [0,3] [cm 16 3,co 17 (.bin .sub (.t 16) (.c (I 1))),cm 3 17]))
def Hx:Cmd:=.seq (.ops [0] [co 2 (.mv (.c .emp))]) (.seq (.ops [0,3] [cm 4 0,co 5 (.len false (.t 4)),cm 3 5]) (.seq (.block 0 [0,3] (.loop [0,3] [] AF)) (.seq (.ops [2] [⟨(some 18),none,.buildSl 1 [U 0] 0 []⟩,cm 19 0,cm 20 3,co 21 (.slc 1 (.t 19) none (some (.t 20)) none),⟨(some 22),none,.app 1 4 (.t 18) (.t 21)⟩,cm 2 22]) (.ret))))
def xS:FD:=⟨1,[[.o 2 []]],[.t 2],Hx⟩
def oo:Cmd:=.seq (.seq (.ops [0,3,14] [cm 4 0,cm 5 3,co 6 (.bin .quo (.t 5) (.c (I 32))),co 7 (.iadrS 1 (.t 4) (.t 6)),ld 8 1 7,cm 9 3,co 10 (.bin .rem (.t 9) (.c (I 32))),co 11 (.cv .u64 (.t 10)),b2 12 .shr 8 11,co 13 (.bin .and (.t 12) (.c (U 1))),co 14 (.bin .eql (.t 13) (.c (U 0)))]) (.cond (.t 14) (.skip) (.exit 0))) (.block 1 [0,3] (.ops [0,3] [cm 15 3,co 16 (.bin .add (.t 15) (.c (I 1))),cm 3 16]))
def ED:Cmd:=.seq (.ops [0] [co 2 (.mv (.c (I 0)))]) (.seq (.ops [0,3] [co 3 (.mv (.c (I 0)))]) (.seq (.block 0 [3] (.loop [0,3] [] oo)) (.seq (.ops [2] [cm 17 3,cm 2 17]) (.ret))))
def wm:FD:=⟨1,[[]],[.t 2],ED⟩
def dC:Cmd:=.seq (.seq (.ops [0,1,5,6,20] [cm 17 6,cm 18 0,co 19 (.len false (.t 18)),b2 20 .lss 17 19]) (.cond (.t 20) (.skip) (.exit 0))) (.seq (.block 1 [0,1,5,6] (.seq (.ops [0,1,5,6,7] [cm 23 0,cm 24 6,co 25 (.iadrS 1 (.t 23) (.t 24)),ld 26 1 25,co 27 (.cv .u64 (.t 26)),cm 7 27]) (.seq (.seq (.ops [0,1,5,6,7,32] [cm 28 6,co 29 (.bin .add (.t 28) (.c (I 1))),cm 30 0,co 31 (.len false (.t 30)),b2 32 .lss 29 31]) (.cond (.t 32) (.ops [0,1,5,6,7] [cm 33 7,cm 34 0,cm 35 6,co 36 (.bin .add (.t 35) (.c (I 1))),co 37 (.iadrS 1 (.t 34) (.t 36)),ld 38 1 37,co 39 (.cv .u64 (.t 38)),co 40 (.bin .shl (.t 39) (.c (W 32))),b2 41 .or 33 40,cm 7 41]) (.skip))) (.ops [0,1,5,6] [cm 42 5,cm 43 7,cm 44 1,co 45 (.bin .rem (.t 44) (.c (I 32))),co 46 (.cv .u64 (.t 45)),b2 47 .shr 43 46,co 48 (.bin .and (.t 47) (.c (W 4294967295))),co 49 (.cv .u32 (.t 48)),⟨(some 50),none,.buildSl 1 [U 0] 1 [(0,.t 49)]⟩,⟨(some 51),none,.app 1 4 (.t 42) (.t 50)⟩,cm 5 51])))) (.ops [0,1,5,6] [cm 21 6,co 22 (.bin .add (.t 21) (.c (I 1))),cm 6 22]))
def xT:Cmd:=.seq (.ops [0,1] [co 4 (.mv (.c .emp))]) (.seq (.seq (.ops [0,1,12] [cm 8 1,co 9 (.bin .quo (.t 8) (.c (I 32))),cm 10 0,co 11 (.len false (.t 10)),b2 12 .geq 9 11]) (.cond (.t 12) (.seq (.ops [4] [co 4 (.mv (.c .emp))]) (.ret)) (.skip))) (.seq (.ops [0,1] [cm 13 0,cm 14 1,co 15 (.bin .quo (.t 14) (.c (I 32))),co 16 (.slc 1 (.t 13) (some (.t 15)) none none),cm 0 16]) (.seq (.ops [0,1,5] [co 5 (.mv (.c .emp))]) (.seq (.seq (.ops [0,1,5,6] [co 6 (.mv (.c (I 0)))]) (.block 0 [5] (.loop [0,1,5,6] [51] dC))) (.seq (.ops [4] [cm 52 5,ca 53 F.r02_trim [.t 52],cm 4 53]) (.ret))))))
def rj:FD:=⟨2,[[.o 2 []]],[.t 4],xT⟩
def ip:Cmd:=.seq (.seq (.ops [0,3,15] [cm 6 3,co 7 (.bin .gtr (.t 6) (.c (I 0))),cm 8 7,cg 9 8 true (.mv (.t 0)),cg 10 8 true (.mv (.t 3)),cg 11 8 true (.bin .sub (.t 10) (.c (I 1))),cg 12 8 true (.iadrS 1 (.t 9) (.t 11)),⟨(some 13),(some (8,true)),.load 1 false (.t 12)⟩,cg 14 8 true (.bin .eql (.t 13) (.c (U 0))),co 15 (.pick (.t 8) (.t 14) (.c (B false)))]) (.cond (.t 15) (.skip) (.exit 0))) (.block 1 [0,3] (.ops [0,3] [cm 16 3,co 17 (.bin .sub (.t 16) (.c (I 1))),cm 3 17]))
def yC:Cmd:=.seq (.ops [0] [co 2 (.mv (.c .emp))]) (.seq (.ops [0,3] [cm 4 0,co 5 (.len false (.t 4)),cm 3 5]) (.seq (.block 0 [0,3] (.loop [0,3] [] ip)) (.seq (.ops [2] [cm 18 0,cm 19 3,co 20 (.slc 1 (.t 18) none (some (.t 19)) none),cm 2 20]) (.ret))))
def rk:FD:=⟨1,[[.o 2 []]],[.t 2],yC⟩
def mq:Cmd:=.seq (.ops [0,1] [co 4 (.mv (.c .emp)),co 5 (.mv (.c (I 0)))]) (.seq (.block 0 [0,1] (.seq (.ops [0,1,6] [cm 7 0,⟨(some 8),none,.buildSl 1 [.emp] 1 [(0,.t 7)]⟩,ca 9 F.natural_long [.t 8],cm 6 9]) (.cond (.t 6) (.seq (.ops [4,5] [co 4 (.mv (.c .emp)),co 5 (.mv (.c (I 9)))]) (.ret)) (.seq (.ops [0,1,10] [cm 11 1,co 12 (.bin .lss (.t 11) (.c (I 0))),cm 13 12,cg 14 13 false (.mv (.t 1)),cg 15 13 false (.bin .gtr (.t 14) (.c (I 65536))),co 16 (.pick (.t 13) (.c (B true)) (.t 15)),cm 10 16]) (.cond (.t 10) (.seq (.ops [4,5] [co 4 (.mv (.c .emp)),co 5 (.mv (.c (I 2)))]) (.ret)) (.skip)))))) (.seq (.ops [4,5] [cm 17 0,cm 18 1,ca 19 F.natural_shl [.t 17,.t 18],ca 20 F.natural_done [.t 19],co 21 (.ext 0 (.t 20)),co 22 (.ext 1 (.t 20)),cm 4 21,cm 5 22]) (.ret)))
def iR:FD:=⟨2,[[.o 2 []],[]],[.t 4,.t 5],mq⟩
def rl:Cmd:=.seq (.ops [0,1,7,8,9] [b2 9 .lss 8 7]) (.seq (.cond (.t 9) (.skip) (.exit 0)) (.seq (.block 1 [0,1,7,8] (.seq (.ops [0,1,5,7,8] [cm 10 8,cm 5 10]) (.seq (.ops [0,1,5,7,8,16] [cm 11 1,cm 12 0,cm 13 5,co 14 (.iadrS 1 (.t 12) (.t 13)),ld 15 1 14,⟨(some 16),none,.call (.t 11) [.t 15]⟩]) (.cond (.t 16) (.seq (.ops [4] [cm 17 5,cm 4 17]) (.ret)) (.skip))))) (.ops [0,1,7,8] [co 18 (.bin .add (.t 8) (.c (I 1))),cm 8 18])))
def tC:Cmd:=.seq (.ops [0,1] [co 4 (.mv (.c (I 0)))]) (.seq (.seq (.ops [0,1,7,8] [cm 6 0,co 7 (.len false (.t 6)),co 8 (.mv (.c (I 0)))]) (.block 0 [] (.loop [0,1,7,8] [] rl))) (.seq (.ops [4] [co 4 (.mv (.c (I (-1))))]) (.ret)))
def kK:FD:=⟨2,[[]],[.t 4],tC⟩
def jZ:Cmd:=.seq (.ops [0,1] [co 4 (.mv (.c (I 0)))]) (.seq (.ops [0,1,5] [cm 7 0,ca 8 F.cmp_isNaN_int_ [.t 7],cm 5 8]) (.seq (.ops [0,1,5,6] [cm 9 1,ca 10 F.cmp_isNaN_int_ [.t 9],cm 6 10]) (.seq (.seq (.ops [0,1,6,11] [cm 11 5]) (.cond (.t 11) (.seq (.seq (.ops [12] [cm 12 6]) (.cond (.t 12) (.seq (.ops [4] [co 4 (.mv (.c (I 0)))]) (.ret)) (.skip))) (.seq (.ops [4] [co 4 (.mv (.c (I (-1))))]) (.ret))) (.skip))) (.seq (.seq (.ops [0,1,13] [cm 13 6]) (.cond (.t 13) (.seq (.ops [4] [co 4 (.mv (.c (I 1)))]) (.ret)) (.skip))) (.seq (.seq (.ops [0,1,16] [cm 14 0,cm 15 1,b2 16 .lss 14 15]) (.cond (.t 16) (.seq (.ops [4] [co 4 (.mv (.c (I (-1))))]) (.ret)) (.skip))) (.seq (.seq (.ops [19] [cm 17 0,cm 18 1,b2 19 .gtr 17 18]) (.cond (.t 19) (.seq (.ops [4] [co 4 (.mv (.c (I 1)))]) (.ret)) (.skip))) (.seq (.ops [4] [co 4 (.mv (.c (I 0)))]) (.ret))))))))
def ge:FD:=⟨2,[[]],[.t 4],jZ⟩
def df:Cmd:=.seq (.ops [0,1,9,10,11,12] [b2 12 .lss 11 10]) (.seq (.cond (.t 12) (.skip) (.exit 0)) (.seq (.block 1 [0,1,9,10,11] (.seq (.ops [0,1,5,6,9,10,11] [cm 13 11,co 14 (.iadrS 1 (.t 9) (.t 11)),ld 15 1 14,cm 5 13,cm 6 15]) (.seq (.seq (.ops [0,1,5,6,9,10,11,19] [cm 16 5,cm 17 1,co 18 (.len false (.t 17)),b2 19 .geq 16 18]) (.cond (.t 19) (.seq (.ops [4] [co 4 (.mv (.c (I 1)))]) (.ret)) (.skip))) (.seq (.ops [0,1,6,7,9,10,11] [cm 20 1,cm 21 5,co 22 (.iadrS 1 (.t 20) (.t 21)),ld 23 1 22,cm 7 23]) (.seq (.ops [0,1,8,9,10,11] [cm 24 6,cm 25 7,ca 26 F.cmp_Compare_int_ [.t 24,.t 25],cm 8 26]) (.seq (.ops [0,1,8,9,10,11,28] [cm 27 8,co 28 (.bin .neq (.t 27) (.c (I 0)))]) (.cond (.t 28) (.seq (.ops [4] [cm 29 8,cm 4 29]) (.ret)) (.skip)))))))) (.ops [0,1,9,10,11] [co 30 (.bin .add (.t 11) (.c (I 1))),cm 11 30])))
def iI:Cmd:=.seq (.ops [0,1] [co 4 (.mv (.c (I 0)))]) (.seq (.seq (.ops [0,1,9,10,11] [cm 9 0,co 10 (.len false (.t 9)),co 11 (.mv (.c (I 0)))]) (.block 0 [0,1] (.loop [0,1,9,10,11] [] df))) (.seq (.seq (.ops [35] [cm 31 0,co 32 (.len false (.t 31)),cm 33 1,co 34 (.len false (.t 33)),b2 35 .lss 32 34]) (.cond (.t 35) (.seq (.ops [4] [co 4 (.mv (.c (I (-1))))]) (.ret)) (.skip))) (.seq (.ops [4] [co 4 (.mv (.c (I 0)))]) (.ret))))
def eX:FD:=⟨2,[[]],[.t 4],iI⟩
def ug:Cmd:=.seq (.ops [0,1] [co 4 (.mv (.c .emp)),co 5 (.mv (.c (I 0)))]) (.seq (.seq (.ops [0,1,9] [cm 6 0,cm 7 1,⟨(some 8),none,.buildSl 1 [.emp] 2 [(0,.t 6),(1,.t 7)]⟩,ca 9 F.natural_long [.t 8]]) (.cond (.t 9) (.seq (.ops [4,5] [co 4 (.mv (.c .emp)),co 5 (.mv (.c (I 9)))]) (.ret)) (.skip))) (.seq (.ops [4,5] [cm 10 0,cm 11 1,ca 12 F.natural_add [.t 10,.t 11],ca 13 F.natural_done [.t 12],co 14 (.ext 0 (.t 13)),co 15 (.ext 1 (.t 13)),cm 4 14,cm 5 15]) (.ret)))
def ov:FD:=⟨2,[[.o 2 []],[]],[.t 4,.t 5],ug⟩
def pQ:Cmd:=.seq (.ops [0,1] [co 4 (.mv (.c .emp)),co 5 (.mv (.c (I 0)))]) (.seq (.block 0 [0,1] (.seq (.ops [0,1,6] [cm 7 0,cm 8 1,⟨(some 9),none,.buildSl 1 [.emp] 2 [(0,.t 7),(1,.t 8)]⟩,ca 10 F.natural_long [.t 9],cm 6 10]) (.cond (.t 6) (.seq (.ops [4,5] [co 4 (.mv (.c .emp)),co 5 (.mv (.c (I 9)))]) (.ret)) (.seq (.ops [0,1,11] [cm 12 0,cm 13 1,ca 14 F.natural_Cmp [.t 12,.t 13],co 15 (.bin .lss (.t 14) (.c (I 0))),cm 11 15]) (.cond (.t 11) (.seq (.ops [4,5] [co 4 (.mv (.c .emp)),co 5 (.mv (.c (I 2)))]) (.ret)) (.skip)))))) (.seq (.ops [4,5] [cm 16 0,cm 17 1,ca 18 F.natural_sub [.t 16,.t 17],ca 19 F.natural_done [.t 18],co 20 (.ext 0 (.t 19)),co 21 (.ext 1 (.t 19)),cm 4 20,cm 5 21]) (.ret)))
def kL:FD:=⟨2,[[.o 2 []],[]],[.t 4,.t 5],pQ⟩
def kj:Cmd:=.seq (.ops [0] [co 2 (.mv (.c .emp))]) (.seq (.seq (.ops [0,4] [cm 3 0,co 4 (.nilq false (.t 3))]) (.cond (.t 4) (.seq (.ops [2] [co 2 (.mv (.c .emp))]) (.ret)) (.skip))) (.seq (.ops [2] [⟨(some 5),none,.buildSl 1 [U 0] 0 []⟩,cm 6 0,⟨(some 7),none,.app 1 4 (.t 5) (.t 6)⟩,cm 2 7]) (.ret)))
def fN:FD:=⟨1,[[.o 2 []]],[.t 2],kj⟩
def jm:Cmd:=.seq (.ops [0,7,8,9,10] [b2 10 .lss 9 8]) (.seq (.cond (.t 10) (.skip) (.exit 0)) (.seq (.block 1 [0,7,8,9] (.seq (.ops [0,6,7,8,9] [co 11 (.iadrS 3 (.t 7) (.t 9)),la 12 3 11,al 6 [B false,.emp,I 0],sr 3 (.t 6) (.t 12)]) (.seq (.ops [0,7,8,9,15] [la 13 3 6,ca 14 F.dyadic_Valid [.t 13],co 15 (.un .not (.t 14))]) (.cond (.t 15) (.seq (.ops [4] [co 4 (.mv (.c (I 1)))]) (.ret)) (.skip))))) (.ops [0,7,8,9] [co 16 (.bin .add (.t 9) (.c (I 1))),cm 9 16])))
def pR:Cmd:=.seq (.ops [0,1] [co 4 (.mv (.c (I 0)))]) (.seq (.seq (.ops [0,7,8,9] [cm 7 1,co 8 (.len false (.t 7)),co 9 (.mv (.c (I 0)))]) (.block 0 [0] (.loop [0,7,8,9] [] jm))) (.seq (.seq (.ops [19] [cm 17 0,ca 18 F.round_precise [.t 17],co 19 (.un .not (.t 18))]) (.cond (.t 19) (.seq (.ops [4] [co 4 (.mv (.c (I 2)))]) (.ret)) (.skip))) (.seq (.ops [4] [co 4 (.mv (.c (I 0)))]) (.ret))))
def kM:FD:=⟨2,[[]],[.t 4],pR⟩
def oA:Cmd:=.seq (.ops [0,2,3,5,8] [bx 5 3 (.t 1),al 8 [B false,.emp,I 0],co 9 (.mv (.c (I 0)))]) (.seq (.ops [0,8,10,11] [la 13 3 5,cm 14 2,cm 15 3,cm 16 0,co 17 (.eqc true 0 (.t 15) (.t 16)),ca 18 F.round_cut [.t 13,.t 14,.t 17],cm 12 18,co 19 (.ext 0 (.t 12)),co 20 (.ext 1 (.t 12)),al 10 [B false,.emp,I 0],sr 3 (.t 10) (.t 19),cm 11 20]) (.seq (.seq (.ops [8,10,11,25] [cm 21 11,co 22 (.bin .eql (.t 21) (.c (I 0))),cm 23 22,cg 24 23 true (.mv (.t 0)),co 25 (.pick (.t 23) (.t 24) (.c (B false)))]) (.cond (.t 25) (.ops [8,10,11] [la 26 3 10,ca 27 F.dyadic_Neg [.t 26],sr 3 (.t 10) (.t 27)]) (.skip))) (.seq (.ops [8,9] [la 28 3 10,cm 29 11,sr 3 (.t 8) (.t 28),cm 9 29]) (.ret))))
def j1:FD:=⟨4,[[.o 0 [],.o 2 [],.o 0 []],[]],[.cell 8 3 true,.t 9],oA⟩
def Hy:Cmd:=.seq (.ops [1,2] [bx 1 3 (.t 0),al 2 [.emp,I 0,B false]]) (.seq (.ops [2] [fa 3 1 1,ld 4 1 3,fa 5 2 1,ld 6 1 5,co 7 (.build [.emp,I 0,B false] [(0,1,.t 4),(1,1,.t 6)]),sr 3 (.t 2) (.t 7)]) (.ret))
def xU:FD:=⟨1,[[.o 2 [],.o 0 [],.o 0 []]],[.cell 2 3 true],Hy⟩
def EE:Cmd:=.seq (.ops [2,3,4,6] [bx 3 3 (.t 0),bx 4 3 (.t 1),al 6 [.emp,I 0,B false],co 7 (.mv (.c (B false)))]) (.seq (.dops [3,4,6,8] [fa 18 2 3,ld 19 1 18,la 20 3 3,ca 21 F.dyadic_Top [.t 20],cm 22 2,b2 23 .sub 21 22,co 24 (.bin .sub (.t 23) (.c (I 8))),co 25 (.mnx true (.t 19) [.t 24]),cm 8 25] [(1,3)]) (.seq (.seq (.dops [3,4,6,8,31] [la 26 3 3,ca 27 F.dyadic_Top [.t 26],la 28 3 4,ca 29 F.dyadic_Top [.t 28],b2 30 .sub 27 29,co 31 (.bin .leq (.t 30) (.c (I 2)))] [(1,2)]) (.cond (.t 31) (.ops [3,4,6,8] [cm 32 8,fa 33 2 4,ld 34 1 33,co 35 (.mnx true (.t 32) [.t 34]),cm 8 35]) (.skip))) (.seq (.ops [3,4,6,8,9] [fa 36 1 3,ld 37 1 36,fa 38 2 3,ld 39 1 38,cm 40 8,b2 41 .sub 39 40,ca 42 F.round_shl [.t 37,.t 41],cm 9 42]) (.seq (.ops [3,4,6,8,9] [co 10 (.mv (.c .emp))]) (.seq (.ops [3,4,6,8,9,11] [co 11 (.mv (.c (B false)))]) (.seq (.seq (.ops [3,4,6,8,9,11,46] [fa 43 2 4,ld 44 1 43,cm 45 8,b2 46 .geq 44 45]) (.cond (.t 46) (.ops [3,4,6,8,9,10,11] [fa 47 1 4,ld 48 1 47,fa 49 2 4,ld 50 1 49,cm 51 8,b2 52 .sub 50 51,ca 53 F.round_shl [.t 48,.t 52],cm 10 53]) (.ops [3,4,6,8,9,10,11] [fa 55 1 4,ld 56 1 55,cm 57 8,fa 58 2 4,ld 59 1 58,b2 60 .sub 57 59,ca 61 F.round_shr [.t 56,.t 60],cm 54 61,co 62 (.ext 0 (.t 54)),co 63 (.ext 1 (.t 54)),cm 10 62,cm 11 63]))) (.seq (.seq (.ops [6,8,9,10,11,68] [fa 64 0 3,ld 65 1 64,fa 66 0 4,ld 67 1 66,co 68 (.eqc false 0 (.t 65) (.t 67))]) (.cond (.t 68) (.seq (.ops [6,8,11,12] [cm 70 9,cm 71 10,ca 72 F.natural_Add [.t 70,.t 71],cm 69 72,co 73 (.ext 0 (.t 69)),co 74 (.ext 1 (.t 69)),cm 12 73,cm 13 74]) (.seq (.ops [6,7] [cm 75 12,cm 76 8,cm 77 11,co 78 (.build [.emp,I 0,B false] [(0,1,.t 75),(1,1,.t 76),(2,1,.t 77)]),sr 3 (.t 6) (.t 78),co 7 (.mv (.c (B false)))]) (.ret))) (.skip))) (.seq (.seq (.ops [6,8,9,10,11,79] [cm 79 11]) (.cond (.t 79) (.ops [6,8,9,10,11] [cm 81 10,⟨(some 82),none,.buildSl 1 [U 0] 1 [(0,.c (U 1))]⟩,ca 83 F.natural_Add [.t 81,.t 82],cm 80 83,co 84 (.ext 0 (.t 80)),co 85 (.ext 1 (.t 80)),cm 10 84]) (.skip))) (.seq (.seq (.ops [6,8,9,10,11,89] [cm 86 9,cm 87 10,ca 88 F.natural_Cmp [.t 86,.t 87],co 89 (.bin .lss (.t 88) (.c (I 0)))]) (.cond (.t 89) (.seq (.ops [6,8,14] [cm 91 10,cm 92 9,ca 93 F.natural_Sub [.t 91,.t 92],cm 90 93,co 94 (.ext 0 (.t 90)),co 95 (.ext 1 (.t 90)),cm 14 94,cm 15 95]) (.seq (.ops [6,7] [cm 96 14,cm 97 8,co 98 (.build [.emp,I 0,B false] [(0,1,.t 96),(1,1,.t 97),(2,1,.c (B false))]),sr 3 (.t 6) (.t 98),co 7 (.mv (.c (B true)))]) (.ret))) (.skip))) (.seq (.ops [6,8,11,16] [cm 100 9,cm 101 10,ca 102 F.natural_Sub [.t 100,.t 101],cm 99 102,co 103 (.ext 0 (.t 99)),co 104 (.ext 1 (.t 99)),cm 16 103,cm 17 104]) (.seq (.ops [6,7] [cm 105 16,cm 106 8,cm 107 11,co 108 (.build [.emp,I 0,B false] [(0,1,.t 105),(1,1,.t 106),(2,1,.t 107)]),sr 3 (.t 6) (.t 108),co 7 (.mv (.c (B false)))]) (.ret))))))))))))
def kN:FD:=⟨3,[[.o 2 [],.o 0 [],.o 0 []],[]],[.cell 6 3 true,.t 7],EE⟩
def su:Cmd:=.seq (.ops [0] [co 2 (.mv (.c (I 0)))]) (.seq (.ops [0] [cm 3 0,ca 4 F.natural_trim [.t 3],cm 0 4]) (.seq (.seq (.ops [0,7] [cm 5 0,co 6 (.len false (.t 5)),co 7 (.bin .eql (.t 6) (.c (I 0)))]) (.cond (.t 7) (.seq (.ops [2] [co 2 (.mv (.c (I 0)))]) (.ret)) (.skip))) (.seq (.ops [2] [cm 8 0,co 9 (.len false (.t 8)),co 10 (.bin .sub (.t 9) (.c (I 1))),co 11 (.bin .mul (.c (I 32)) (.t 10)),cm 12 0,cm 13 0,co 14 (.len false (.t 13)),co 15 (.bin .sub (.t 14) (.c (I 1))),co 16 (.iadrS 1 (.t 12) (.t 15)),ld 17 1 16,ca 18 F.bits_Len32 [.t 17],b2 19 .add 11 18,cm 2 19]) (.ret))))
def mZ:FD:=⟨1,[[]],[.t 2],su⟩
def yD:Cmd:=.seq (.ops [0] [co 2 (.mv (.c (B false)))]) (.seq (.ops [2] [cm 3 0,ca 4 F.slices_ContainsFunc_Suint32_Suint32_ [.t 3,.c (.fn F.natural_long_1 [] [])],cm 2 4]) (.ret))
def rm:FD:=⟨1,[[]],[.t 2],yD⟩
def sv:Cmd:=.seq (.ops [0] [co 2 (.mv (.c .emp)),co 3 (.mv (.c (I 0)))]) (.seq (.ops [0] [cm 4 0,ca 5 F.natural_trim [.t 4],cm 0 5]) (.seq (.seq (.ops [0,8] [cm 6 0,⟨(some 7),none,.buildSl 1 [.emp] 1 [(0,.t 6)]⟩,ca 8 F.natural_long [.t 7]]) (.cond (.t 8) (.seq (.ops [2,3] [co 2 (.mv (.c .emp)),co 3 (.mv (.c (I 9)))]) (.ret)) (.skip))) (.seq (.ops [2,3] [cm 9 0,ca 10 F.slices_Clip_uint32_uint32_ [.t 9],cm 2 10,co 3 (.mv (.c (I 0)))]) (.ret))))
def m5:FD:=⟨1,[[.o 2 []],[]],[.t 2,.t 3],sv⟩
def lQ:Cmd:=.seq (.ops [1,5,6,7,8,18,19,20,25,26,27,28] [b2 28 .lss 27 26]) (.seq (.cond (.t 28) (.skip) (.exit 2)) (.seq (.block 3 [1,5,6,7,8,18,19,20,25,26,27] (.seq (.ops [1,5,6,7,8,9,10,18,19,20,25,26,27] [cm 29 27,co 30 (.iadrS 1 (.t 25) (.t 27)),ld 31 1 30,cm 9 29,cm 10 31]) (.seq (.ops [1,5,6,7,9,11,18,19,20,25,26,27] [cm 32 7,co 33 (.cv .u64 (.t 32)),cm 34 10,co 35 (.cv .u64 (.t 34)),b2 36 .mul 33 35,cm 37 5,cm 38 6,cm 39 9,b2 40 .add 38 39,co 41 (.iadrS 1 (.t 37) (.t 40)),ld 42 1 41,co 43 (.cv .u64 (.t 42)),b2 44 .add 36 43,cm 45 8,b2 46 .add 44 45,cm 11 46]) (.ops [1,5,6,7,8,18,19,20,25,26,27] [cm 47 5,cm 48 6,cm 49 9,b2 50 .add 48 49,cm 51 11,co 52 (.cv .u32 (.t 51)),cm 53 11,co 54 (.bin .shr (.t 53) (.c (W 32))),co 55 (.iadrS 1 (.t 47) (.t 50)),sr 1 (.t 55) (.t 52),cm 8 54])))) (.ops [1,5,6,7,8,18,19,20,25,26,27] [co 56 (.bin .add (.t 27) (.c (I 1))),cm 27 56])))
def lR:Cmd:=.seq (.ops [1,5,18,19,20,21] [b2 21 .lss 20 19]) (.seq (.cond (.t 21) (.skip) (.exit 0)) (.seq (.block 1 [1,5,18,19,20] (.seq (.ops [1,5,6,7,18,19,20] [cm 22 20,co 23 (.iadrS 1 (.t 18) (.t 20)),ld 24 1 23,cm 6 22,cm 7 24]) (.seq (.ops [1,5,6,7,8,18,19,20] [co 8 (.mv (.c (W 0)))]) (.seq (.seq (.ops [1,5,6,7,8,18,19,20,25,26,27] [cm 25 1,co 26 (.len false (.t 25)),co 27 (.mv (.c (I 0)))]) (.block 2 [1,5,6,8,18,19,20] (.loop [1,5,6,7,8,18,19,20,25,26,27] [17] lQ))) (.ops [1,5,18,19,20] [cm 57 5,cm 58 6,cm 59 1,co 60 (.len false (.t 59)),b2 61 .add 58 60,cm 62 8,co 63 (.cv .u32 (.t 62)),co 64 (.iadrS 1 (.t 57) (.t 61)),sr 1 (.t 64) (.t 63)]))))) (.ops [1,5,18,19,20] [co 65 (.bin .add (.t 20) (.c (I 1))),cm 20 65])))
def AG:Cmd:=.seq (.ops [0,1] [co 4 (.mv (.c .emp))]) (.seq (.ops [0,1,5] [cm 12 0,co 13 (.len false (.t 12)),cm 14 1,co 15 (.len false (.t 14)),b2 16 .add 13 15,⟨(some 17),none,.mkSl 1 [U 0] 4 (.t 16) (.t 16)⟩,cm 5 17]) (.seq (.seq (.ops [1,5,18,19,20] [cm 18 0,co 19 (.len false (.t 18)),co 20 (.mv (.c (I 0)))]) (.block 0 [5] (.loop [1,5,18,19,20] [17] lR))) (.seq (.ops [4] [cm 66 5,cm 4 66]) (.ret))))
def sw:FD:=⟨2,[[.o 2 []]],[.t 4],AG⟩
def gg:Cmd:=.seq (.seq (.ops [0,3,15] [cm 6 3,co 7 (.bin .gtr (.t 6) (.c (I 0))),cm 8 7,cg 9 8 true (.mv (.t 0)),cg 10 8 true (.mv (.t 3)),cg 11 8 true (.bin .sub (.t 10) (.c (I 1))),cg 12 8 true (.iadrS 1 (.t 9) (.t 11)),⟨(some 13),(some (8,true)),.load 1 false (.t 12)⟩,cg 14 8 true (.bin .eql (.t 13) (.c (U 0))),co 15 (.pick (.t 8) (.t 14) (.c (B false)))]) (.cond (.t 15) (.skip) (.exit 0))) (.block 1 [0,3] (.ops [0,3] [cm 16 3,co 17 (.bin .sub (.t 16) (.c (I 1))),cm 3 17]))
def wn:Cmd:=.seq (.ops [0] [co 2 (.mv (.c .emp))]) (.seq (.ops [0,3] [cm 4 0,co 5 (.len false (.t 4)),cm 3 5]) (.seq (.block 0 [0,3] (.loop [0,3] [] gg)) (.seq (.ops [2] [cm 18 0,cm 19 3,co 20 (.slc 1 (.t 18) none (some (.t 19)) none),cm 2 20]) (.ret))))
def pd:FD:=⟨1,[[.o 2 []]],[.t 2],wn⟩
def m6:Cmd:=.seq (.ops [3,6,7,8,9] [b2 9 .lss 8 7]) (.seq (.cond (.t 9) (.skip) (.exit 0)) (.seq (.block 1 [3,6,7,8] (.seq (.ops [3,5,6,7,8] [co 10 (.iadrS 1 (.t 6) (.t 8)),ld 11 1 10,cm 5 11]) (.seq (.seq (.ops [3,5,6,7,8,13] [cm 12 5,co 13 (.bin .neq (.t 12) (.c (U 0)))]) (.cond (.t 13) (.seq (.ops [2] [cm 14 3,cm 15 5,ca 16 F.bits_TrailingZeros32 [.t 15],b2 17 .add 14 16,cm 2 17]) (.ret)) (.skip))) (.ops [3,6,7,8] [cm 18 3,co 19 (.bin .add (.t 18) (.c (I 32))),cm 3 19])))) (.ops [3,6,7,8] [co 20 (.bin .add (.t 8) (.c (I 1))),cm 8 20])))
def BN:Cmd:=.seq (.ops [0] [co 2 (.mv (.c (I 0)))]) (.seq (.ops [0,3] [co 3 (.mv (.c (I 0)))]) (.seq (.seq (.ops [3,6,7,8] [cm 6 0,co 7 (.len false (.t 6)),co 8 (.mv (.c (I 0)))]) (.block 0 [3] (.loop [3,6,7,8] [] m6))) (.seq (.ops [2] [cm 21 3,cm 2 21]) (.ret))))
def ui:FD:=⟨1,[[]],[.t 2],BN⟩
def pS:Cmd:=.seq (.ops [0,1] [co 4 (.mv (.c .emp)),co 5 (.mv (.c (I 0)))]) (.seq (.block 0 [0,1] (.seq (.ops [0,1,6] [cm 7 0,⟨(some 8),none,.buildSl 1 [.emp] 1 [(0,.t 7)]⟩,ca 9 F.natural_long [.t 8],cm 6 9]) (.cond (.t 6) (.seq (.ops [4,5] [co 4 (.mv (.c .emp)),co 5 (.mv (.c (I 9)))]) (.ret)) (.seq (.ops [0,1,10] [cm 11 1,co 12 (.bin .lss (.t 11) (.c (I 0))),cm 13 12,cg 14 13 false (.mv (.t 1)),cg 15 13 false (.bin .gtr (.t 14) (.c (I 65536))),co 16 (.pick (.t 13) (.c (B true)) (.t 15)),cm 10 16]) (.cond (.t 10) (.seq (.ops [4,5] [co 4 (.mv (.c .emp)),co 5 (.mv (.c (I 2)))]) (.ret)) (.skip)))))) (.seq (.ops [4,5] [cm 17 0,cm 18 1,ca 19 F.natural_shr [.t 17,.t 18],ca 20 F.natural_done [.t 19],co 21 (.ext 0 (.t 20)),co 22 (.ext 1 (.t 20)),cm 4 21,cm 5 22]) (.ret)))
def kO:FD:=⟨2,[[.o 2 []],[]],[.t 4,.t 5],pS⟩
def kP:Cmd:=.seq (.ops [0] [co 2 (.mv (.c .emp))]) (.seq (.ops [2] [cm 3 0,cm 4 0,co 5 (.len false (.t 4)),cm 6 0,co 7 (.len false (.t 6)),co 8 (.slc 1 (.t 3) none (some (.t 5)) (some (.t 7))),cm 2 8]) (.ret))
def gb:FD:=⟨1,[[.o 2 []]],[.t 2],kP⟩
def sx:Cmd:=.seq (.ops [1,2] [bx 1 7 (.t 0),al 2 [B false,.emp,I 0],co 3 (.mv (.c (B false)))]) (.seq (.seq (.ops [1,2,7] [la 4 7 1,⟨(some 5),none,.buildSl 7 [B false,.emp,I 0,B false,.emp,I 0,B false] 1 [(0,.t 4)]⟩,ca 6 F.interval_known [.t 5],co 7 (.un .not (.t 6))]) (.cond (.t 7) (.seq (.ops [2,3] [co 8 (.build [B false,.emp,I 0] []),sr 3 (.t 2) (.t 8),co 3 (.mv (.c (B false)))]) (.ret)) (.skip))) (.seq (.seq (.ops [1,2,11] [la 9 7 1,ca 10 F.interval_Sign [.t 9],co 11 (.bin .eql (.t 10) (.c (I 0)))]) (.cond (.t 11) (.seq (.ops [2,3] [co 12 (.build [B false,.emp,I 0] []),sr 3 (.t 2) (.t 12),co 3 (.mv (.c (B true)))]) (.ret)) (.skip))) (.seq (.dops [2,3] [fa 13 0 1,la 14 3 13,ca 15 F.dyadic_Abs [.t 14],fa 16 3 1,la 17 3 16,ca 18 F.dyadic_Abs [.t 17],ca 19 F.interval_less [.t 15,.t 18],sr 3 (.t 2) (.t 19),co 3 (.mv (.c (B true)))] [(2,4)]) (.ret))))
def m7:FD:=⟨1,[[.o 0 [],.o 2 [],.o 0 []],[]],[.cell 2 3 true,.t 3],sx⟩
def yE:Cmd:=.seq (.ops [1,2] [bx 1 7 (.t 0),al 2 [B false,.emp,I 0],co 3 (.mv (.c (B false)))]) (.seq (.seq (.ops [1,2,7] [la 4 7 1,⟨(some 5),none,.buildSl 7 [B false,.emp,I 0,B false,.emp,I 0,B false] 1 [(0,.t 4)]⟩,ca 6 F.interval_known [.t 5],co 7 (.un .not (.t 6))]) (.cond (.t 7) (.seq (.ops [2,3] [co 8 (.build [B false,.emp,I 0] []),sr 3 (.t 2) (.t 8),co 3 (.mv (.c (B false)))]) (.ret)) (.skip))) (.seq (.dops [2,3] [fa 9 0 1,la 10 3 9,ca 11 F.dyadic_Abs [.t 10],fa 12 3 1,la 13 3 12,ca 14 F.dyadic_Abs [.t 13],ca 15 F.interval_more [.t 11,.t 14],sr 3 (.t 2) (.t 15),co 3 (.mv (.c (B true)))] [(2,4)]) (.ret)))
def rn:FD:=⟨1,[[.o 0 [],.o 2 [],.o 0 []],[]],[.cell 2 3 true,.t 3],yE⟩
def aR:Cmd:=.seq (.seq (.ops [1,2,4,5,10,12,13,14,28] [cm 22 14,cm 23 1,b2 24 .lss 22 23,cm 25 24,cg 26 25 true (.mv (.t 13)),cg 27 25 true (.bin .eql (.t 26) (.c (I 0))),co 28 (.pick (.t 25) (.t 27) (.c (B false)))]) (.cond (.t 28) (.skip) (.exit 0))) (.seq (.block 1 [1,2,4,5,10,12,13,14] (.ops [1,2,4,5,10,12,13,14] [cm 32 4,la 33 3 12,la 34 3 5,cm 35 2,⟨(some 36),none,.call (.t 32) [.t 33,.t 34,.t 35]⟩,cm 31 36,co 37 (.ext 0 (.t 31)),co 38 (.ext 1 (.t 31)),sr 3 (.t 12) (.t 37),cm 13 38])) (.ops [1,2,4,5,10,12,13,14] [cm 29 14,co 30 (.bin .add (.t 29) (.c (I 1))),cm 14 30]))
def wo:Cmd:=.seq (.ops [1,2,3,4,5,10] [bx 5 3 (.t 0),al 10 [B false,.emp,I 0],co 11 (.mv (.c (I 0)))]) (.seq (.ops [1,2,4,5,10,12,13] [cm 16 3,la 17 3 5,cm 18 2,⟨(some 19),none,.call (.t 16) [.t 17,.t 18]⟩,cm 15 19,co 20 (.ext 0 (.t 15)),co 21 (.ext 1 (.t 15)),al 12 [B false,.emp,I 0],sr 3 (.t 12) (.t 20),cm 13 21]) (.seq (.seq (.ops [1,2,4,5,10,12,13,14] [co 14 (.mv (.c (I 1)))]) (.block 0 [10,12,13] (.loop [1,2,4,5,10,12,13,14] [5,10,12] aR))) (.seq (.ops [10,11] [la 39 3 12,cm 40 13,sr 3 (.t 10) (.t 39),cm 11 40]) (.ret))))
def kv:FD:=⟨5,[[.o 0 [],.o 2 [],.o 0 []],[]],[.cell 10 3 true,.t 11],wo⟩
def PN:Cmd:=.seq (.ops [0,1] [co 4 (.mv (.c (W 0))),co 5 (.mv (.c (W 0)))]) (.seq (.ops [0,1,6] [cm 14 0,co 15 (.bin .and (.t 14) (.c (W 4294967295))),cm 6 15]) (.seq (.ops [0,1,6,7] [cm 16 0,co 17 (.bin .shr (.t 16) (.c (W 32))),cm 7 17]) (.seq (.ops [0,1,6,7,8] [cm 18 1,co 19 (.bin .and (.t 18) (.c (W 4294967295))),cm 8 19]) (.seq (.ops [0,1,6,7,8,9] [cm 20 1,co 21 (.bin .shr (.t 20) (.c (W 32))),cm 9 21]) (.seq (.ops [0,1,6,7,8,9,10] [cm 22 6,cm 23 8,b2 24 .mul 22 23,cm 10 24]) (.seq (.ops [0,1,6,7,9,11] [cm 25 7,cm 26 8,b2 27 .mul 25 26,cm 28 10,co 29 (.bin .shr (.t 28) (.c (W 32))),b2 30 .add 27 29,cm 11 30]) (.seq (.ops [0,1,6,7,9,11,12] [cm 31 11,co 32 (.bin .and (.t 31) (.c (W 4294967295))),cm 12 32]) (.seq (.ops [0,1,6,7,9,12,13] [cm 33 11,co 34 (.bin .shr (.t 33) (.c (W 32))),cm 13 34]) (.seq (.ops [0,1,7,9,12,13] [cm 35 12,cm 36 6,cm 37 9,b2 38 .mul 36 37,b2 39 .add 35 38,cm 12 39]) (.seq (.ops [0,1,4] [cm 40 7,cm 41 9,b2 42 .mul 40 41,cm 43 13,b2 44 .add 42 43,cm 45 12,co 46 (.bin .shr (.t 45) (.c (W 32))),b2 47 .add 44 46,cm 4 47]) (.seq (.ops [4,5] [cm 48 0,cm 49 1,b2 50 .mul 48 49,cm 5 50]) (.ret))))))))))))
def MK:FD:=⟨2,[[],[]],[.t 4,.t 5],PN⟩
def Ts:Cmd:=.seq (.ops [2,3,4,5,8] [bx 4 3 (.t 0),bx 5 3 (.t 1),al 8 [B false,.emp,I 0],co 9 (.mv (.c (I 0)))]) (.seq (.seq (.ops [2,3,4,5,8,10] [cm 15 2,la 16 3 4,la 17 3 5,⟨(some 18),none,.buildSl 3 [B false,.emp,I 0] 2 [(0,.t 16),(1,.t 17)]⟩,ca 19 F.round_fault [.t 15,.t 18],cm 10 19]) (.seq (.ops [2,3,4,5,8,10,21] [cm 20 10,co 21 (.bin .neq (.t 20) (.c (I 0)))]) (.cond (.t 21) (.seq (.ops [8,9] [co 22 (.build [B false,.emp,I 0] []),cm 23 10,sr 3 (.t 8) (.t 22),cm 9 23]) (.ret)) (.skip)))) (.seq (.block 0 [2,3,4,5,8] (.seq (.ops [2,3,4,5,8,24] [fa 25 1 5,ld 26 1 25,co 27 (.len false (.t 26)),co 28 (.bin .eql (.t 27) (.c (I 0))),cm 24 28]) (.cond (.t 24) (.seq (.ops [8,9] [co 29 (.build [B false,.emp,I 0] []),sr 3 (.t 8) (.t 29),co 9 (.mv (.c (I 10)))]) (.ret)) (.seq (.ops [2,3,4,5,8,30] [fa 31 1 4,ld 32 1 31,co 33 (.len false (.t 32)),co 34 (.bin .eql (.t 33) (.c (I 0))),cm 30 34]) (.cond (.t 30) (.seq (.ops [8,9] [co 35 (.build [B false,.emp,I 0] []),sr 3 (.t 8) (.t 35),co 9 (.mv (.c (I 0)))]) (.ret)) (.skip)))))) (.seq (.dops [2,3,4,5,8,11] [cm 36 2,co 37 (.bin .add (.t 36) (.c (I 3))),la 38 3 5,ca 39 F.dyadic_Bits [.t 38],b2 40 .add 37 39,la 41 3 4,ca 42 F.dyadic_Bits [.t 41],b2 43 .sub 40 42,co 44 (.mnx false (.c (I 0)) [.t 43]),cm 11 44] [(3,5)]) (.seq (.dops [2,3,4,5,8,11,12,13] [fa 46 1 4,ld 47 1 46,cm 48 11,ca 49 F.round_shl [.t 47,.t 48],fa 50 1 5,ld 51 1 50,ca 52 F.natural_DivMod [.t 49,.t 51],cm 45 52,co 53 (.ext 0 (.t 45)),co 54 (.ext 1 (.t 45)),co 55 (.ext 2 (.t 45)),cm 12 53,cm 13 54,cm 14 55] [(3,5)]) (.seq (.dops [8,9] [fa 56 0 4,ld 57 1 56,fa 58 0 5,ld 59 1 58,co 60 (.eqc true 0 (.t 57) (.t 59)),cm 61 12,fa 62 2 4,ld 63 1 62,cm 64 11,b2 65 .sub 63 64,fa 66 2 5,ld 67 1 66,b2 68 .sub 65 67,cm 69 13,ca 70 F.natural_Bits [.t 69],co 71 (.bin .gtr (.t 70) (.c (I 0))),co 72 (.build [.emp,I 0,B false] [(0,1,.t 61),(1,1,.t 68),(2,1,.t 71)]),cm 73 2,cm 74 3,ca 75 F.round_signed [.t 60,.t 72,.t 73,.t 74],co 76 (.ext 0 (.t 75)),co 77 (.ext 1 (.t 75)),sr 3 (.t 8) (.t 76),cm 9 77] [(1,14),(3,14),(7,14),(11,14)]) (.ret))))))
def PO:FD:=⟨4,[[.o 0 [],.o 2 [],.o 0 []],[]],[.cell 8 3 true,.t 9],Ts⟩
def lS:Cmd:=.seq (.ops [1,5,6,21,22,23,24] [b2 24 .lss 23 22]) (.seq (.cond (.t 24) (.skip) (.exit 0)) (.seq (.block 1 [1,5,6,21,22,23] (.seq (.ops [1,5,6,8,21,22,23] [co 25 (.iadrS 1 (.t 21) (.t 23)),ld 26 1 25,cm 8 26]) (.seq (.ops [1,5,9,21,22,23] [cm 27 8,co 28 (.cv .u64 (.t 27)),cm 29 1,co 30 (.bin .rem (.t 29) (.c (I 32))),b2 31 .shl 28 30,cm 32 6,b2 33 .or 31 32,cm 9 33]) (.ops [1,5,6,21,22,23] [cm 34 5,cm 35 9,co 36 (.cv .u32 (.t 35)),⟨(some 37),none,.buildSl 1 [U 0] 1 [(0,.t 36)]⟩,⟨(some 38),none,.app 1 4 (.t 34) (.t 37)⟩,cm 39 9,co 40 (.bin .shr (.t 39) (.c (W 32))),cm 5 38,cm 6 40])))) (.ops [1,5,6,21,22,23] [co 41 (.bin .add (.t 23) (.c (I 1))),cm 23 41])))
def AH:Cmd:=.seq (.ops [0,1] [co 4 (.mv (.c .emp))]) (.seq (.ops [0,1] [cm 10 0,ca 11 F.natural_trim [.t 10],cm 0 11]) (.seq (.ops [0,1,5] [cm 12 1,co 13 (.bin .quo (.t 12) (.c (I 32))),cm 14 1,co 15 (.bin .quo (.t 14) (.c (I 32))),cm 16 0,co 17 (.len false (.t 16)),b2 18 .add 15 17,co 19 (.bin .add (.t 18) (.c (I 1))),⟨(some 20),none,.mkSl 1 [U 0] 4 (.t 13) (.t 19)⟩,cm 5 20]) (.seq (.ops [0,1,5,6] [co 6 (.mv (.c (W 0)))]) (.seq (.seq (.ops [1,5,6,21,22,23] [cm 21 0,co 22 (.len false (.t 21)),co 23 (.mv (.c (I 0)))]) (.block 0 [5,6] (.loop [1,5,6,21,22,23] [20,38] lS))) (.seq (.ops [4] [cm 42 5,cm 43 6,co 44 (.cv .u32 (.t 43)),⟨(some 45),none,.buildSl 1 [U 0] 1 [(0,.t 44)]⟩,⟨(some 46),none,.app 1 4 (.t 42) (.t 45)⟩,cm 4 46]) (.ret))))))
def sy:FD:=⟨2,[[.o 2 []]],[.t 4],AH⟩
def wq:Cmd:=.seq (.ops [0] [co 2 (.mv (.c (B false)))]) (.seq (.ops [2] [cm 3 0,cm 4 0,b2 5 .neq 3 4,cm 2 5]) (.ret))
def pe:FD:=⟨1,[[]],[.t 2],wq⟩
def gA:Cmd:=.seq (.ops [0,1,5,6,21,22,23,24] [b2 24 .lss 23 22]) (.seq (.cond (.t 24) (.skip) (.exit 0)) (.seq (.block 1 [0,1,5,6,21,22,23] (.seq (.ops [0,1,5,6,7,8,21,22,23] [cm 25 23,co 26 (.iadrS 1 (.t 21) (.t 23)),ld 27 1 26,cm 7 25,cm 8 27]) (.seq (.ops [0,1,5,6,7,8,9,21,22,23] [co 9 (.mv (.c (U 0)))]) (.seq (.seq (.ops [0,1,5,6,7,8,9,21,22,23,31] [cm 28 7,cm 29 1,co 30 (.len false (.t 29)),b2 31 .lss 28 30]) (.cond (.t 31) (.ops [0,1,5,6,7,8,9,21,22,23] [cm 32 1,cm 33 7,co 34 (.iadrS 1 (.t 32) (.t 33)),ld 35 1 34,cm 9 35]) (.skip))) (.ops [0,1,5,6,21,22,23] [cm 37 5,cm 38 7,cm 39 8,cm 40 9,cm 41 6,ca 42 F.bits_Add32 [.t 39,.t 40,.t 41],cm 36 42,co 43 (.ext 0 (.t 36)),co 44 (.ext 1 (.t 36)),co 45 (.iadrS 1 (.t 37) (.t 38)),sr 1 (.t 45) (.t 43),cm 6 44]))))) (.ops [0,1,5,6,21,22,23] [co 46 (.bin .add (.t 23) (.c (I 1))),cm 23 46])))
def AI:Cmd:=.seq (.ops [0,1] [co 4 (.mv (.c .emp))]) (.seq (.seq (.ops [0,1,14] [cm 10 0,co 11 (.len false (.t 10)),cm 12 1,co 13 (.len false (.t 12)),b2 14 .lss 11 13]) (.cond (.t 14) (.ops [0,1] [cm 15 1,cm 16 0,cm 0 15,cm 1 16]) (.skip))) (.seq (.ops [0,1,5] [cm 17 0,co 18 (.len false (.t 17)),co 19 (.bin .add (.t 18) (.c (I 1))),⟨(some 20),none,.mkSl 1 [U 0] 4 (.t 19) (.t 19)⟩,cm 5 20]) (.seq (.ops [0,1,5,6] [co 6 (.mv (.c (U 0)))]) (.seq (.seq (.ops [0,1,5,6,21,22,23] [cm 21 0,co 22 (.len false (.t 21)),co 23 (.mv (.c (I 0)))]) (.block 0 [0,5,6] (.loop [0,1,5,6,21,22,23] [20] gA))) (.seq (.ops [5] [cm 47 5,cm 48 0,co 49 (.len false (.t 48)),cm 50 6,co 51 (.iadrS 1 (.t 47) (.t 49)),sr 1 (.t 51) (.t 50)]) (.seq (.ops [4] [cm 52 5,cm 4 52]) (.ret)))))))
def oB:FD:=⟨2,[[.o 2 []]],[.t 4],AI⟩
def jn:Cmd:=.seq (.ops [1,5,6,17,18,19,20] [b2 20 .lss 19 18]) (.seq (.cond (.t 20) (.skip) (.exit 0)) (.seq (.block 1 [1,5,6,17,18,19] (.seq (.ops [1,5,6,7,8,17,18,19] [cm 21 19,co 22 (.iadrS 1 (.t 17) (.t 19)),ld 23 1 22,cm 7 21,cm 8 23]) (.seq (.ops [1,5,6,7,8,9,17,18,19] [co 9 (.mv (.c (U 0)))]) (.seq (.seq (.ops [1,5,6,7,8,9,17,18,19,27] [cm 24 7,cm 25 1,co 26 (.len false (.t 25)),b2 27 .lss 24 26]) (.cond (.t 27) (.ops [1,5,6,7,8,9,17,18,19] [cm 28 1,cm 29 7,co 30 (.iadrS 1 (.t 28) (.t 29)),ld 31 1 30,cm 9 31]) (.skip))) (.ops [1,5,6,17,18,19] [cm 33 5,cm 34 7,cm 35 8,cm 36 9,cm 37 6,ca 38 F.bits_Sub32 [.t 35,.t 36,.t 37],cm 32 38,co 39 (.ext 0 (.t 32)),co 40 (.ext 1 (.t 32)),co 41 (.iadrS 1 (.t 33) (.t 34)),sr 1 (.t 41) (.t 39),cm 6 40]))))) (.ops [1,5,6,17,18,19] [co 42 (.bin .add (.t 19) (.c (I 1))),cm 19 42])))
def AJ:Cmd:=.seq (.ops [0,1] [co 4 (.mv (.c .emp))]) (.seq (.ops [0,1] [cm 10 0,ca 11 F.natural_trim [.t 10],cm 12 1,ca 13 F.natural_trim [.t 12],cm 0 11,cm 1 13]) (.seq (.ops [0,1,5] [cm 14 0,co 15 (.len false (.t 14)),⟨(some 16),none,.mkSl 1 [U 0] 4 (.t 15) (.t 15)⟩,cm 5 16]) (.seq (.ops [0,1,5,6] [co 6 (.mv (.c (U 0)))]) (.seq (.seq (.ops [1,5,6,17,18,19] [cm 17 0,co 18 (.len false (.t 17)),co 19 (.mv (.c (I 0)))]) (.block 0 [5] (.loop [1,5,6,17,18,19] [16] jn))) (.seq (.ops [4] [cm 43 5,cm 4 43]) (.ret))))))
def sz:FD:=⟨2,[[.o 2 []]],[.t 4],AJ⟩
def rp:Cmd:=.seq (.ops [0] [co 2 (.mv (.c (B false)))]) (.seq (.ops [2] [cm 3 0,co 4 (.bin .geq (.t 3) (.c (I 8))),cm 5 4,cg 6 5 true (.mv (.t 0)),cg 7 5 true (.bin .leq (.t 6) (.c (I 512))),co 8 (.pick (.t 5) (.t 7) (.c (B false))),cm 2 8]) (.ret))
def lT:FD:=⟨1,[[]],[.t 2],rp⟩
def EF:Cmd:=.seq (.ops [1,2,3,6] [bx 3 3 (.t 0),al 6 [B false,.emp,I 0],co 7 (.mv (.c (I 0)))]) (.seq (.dops [1,2,3,6,8] [fa 13 1 3,ld 14 1 13,fa 15 0 3,ld 16 1 15,ca 17 F.natural_Bits [.t 16],b2 18 .add 14 17,cm 19 1,b2 20 .sub 18 19,co 21 (.mnx false (.t 20) [.c (I (-16384))]),cm 8 21] [(1,4)]) (.seq (.dops [1,2,3,6,8,10] [fa 22 0 3,ld 23 1 22,fa 24 2 3,ld 25 1 24,cm 9 23,cm 10 25] []) (.seq (.seq (.ops [1,2,3,6,8,10,29] [fa 26 1 3,ld 27 1 26,cm 28 8,b2 29 .geq 27 28]) (.cond (.t 29) (.ops [1,2,6,8,9,10] [fa 30 0 3,ld 31 1 30,fa 32 1 3,ld 33 1 32,cm 34 8,b2 35 .sub 33 34,ca 36 F.round_shl [.t 31,.t 35],cm 9 36]) (.seq (.ops [1,2,6,8,10,11,12] [fa 38 0 3,ld 39 1 38,cm 40 8,fa 41 1 3,ld 42 1 41,b2 43 .sub 40 42,ca 44 F.round_shr [.t 39,.t 43],cm 37 44,co 45 (.ext 0 (.t 37)),co 46 (.ext 1 (.t 37)),cm 11 45,cm 12 46]) (.ops [1,2,6,8,9,10] [cm 47 11,cm 48 10,cm 49 48,cg 50 49 false (.mv (.t 12)),co 51 (.pick (.t 49) (.c (B true)) (.t 50)),cm 9 47,cm 10 51])))) (.seq (.seq (.ops [1,2,6,8,9,55] [cm 52 2,cm 53 52,cg 54 53 true (.mv (.t 10)),co 55 (.pick (.t 53) (.t 54) (.c (B false)))]) (.cond (.t 55) (.ops [1,2,6,8,9] [cm 57 9,⟨(some 58),none,.buildSl 1 [U 0] 1 [(0,.c (U 1))]⟩,ca 59 F.natural_Add [.t 57,.t 58],cm 56 59,co 60 (.ext 0 (.t 56)),co 61 (.ext 1 (.t 56)),cm 9 60]) (.skip))) (.seq (.seq (.ops [1,2,6,8,9,66] [cm 62 9,ca 63 F.natural_Bits [.t 62],cm 64 8,b2 65 .add 63 64,co 66 (.bin .gtr (.t 65) (.c (I 16384)))]) (.cond (.t 66) (.seq (.seq (.ops [1,6,67] [cm 67 2]) (.cond (.t 67) (.seq (.ops [6,7] [co 68 (.build [B false,.emp,I 0] []),sr 3 (.t 6) (.t 68),co 7 (.mv (.c (I 9)))]) (.ret)) (.skip))) (.seq (.ops [1,6,9] [⟨(some 70),none,.buildSl 1 [U 0] 1 [(0,.c (U 1))]⟩,cm 71 1,ca 72 F.round_shl [.t 70,.t 71],⟨(some 73),none,.buildSl 1 [U 0] 1 [(0,.c (U 1))]⟩,ca 74 F.natural_Sub [.t 72,.t 73],cm 69 74,co 75 (.ext 0 (.t 69)),co 76 (.ext 1 (.t 69)),cm 9 75]) (.ops [6,8,9] [cm 77 1,co 78 (.bin .sub (.c (I 16384)) (.t 77)),cm 8 78]))) (.skip))) (.seq (.ops [6,7] [cm 79 9,cm 80 8,ca 81 F.dyadic_Make [.c (B false),.t 79,.t 80],co 82 (.ext 0 (.t 81)),co 83 (.ext 1 (.t 81)),sr 3 (.t 6) (.t 82),cm 7 83]) (.ret)))))))
def nH:FD:=⟨3,[[.o 0 [],.o 2 [],.o 0 []],[]],[.cell 6 3 true,.t 7],EF⟩
def EG:Cmd:=.seq (.ops [0,1] [co 4 (.mv (.c .emp))]) (.seq (.ops [5] [cm 8 0,cm 9 1,ca 10 F.natural_Shl [.t 8,.t 9],cm 7 10,co 11 (.ext 0 (.t 7)),co 12 (.ext 1 (.t 7)),cm 5 11,cm 6 12]) (.seq (.ops [4] [cm 13 5,cm 4 13]) (.ret)))
def wr:FD:=⟨2,[[.o 2 []]],[.t 4],EG⟩
def xV:Cmd:=.seq (.ops [0,1] [co 4 (.mv (.c .emp)),co 5 (.mv (.c (B false)))]) (.seq (.seq (.ops [0,1,11] [cm 8 1,cm 9 0,ca 10 F.natural_Bits [.t 9],b2 11 .gtr 8 10]) (.cond (.t 11) (.ops [0,1] [cm 12 0,ca 13 F.natural_Bits [.t 12],cm 1 13]) (.skip))) (.seq (.ops [0,1,6] [cm 15 0,cm 16 1,ca 17 F.natural_Shr [.t 15,.t 16],cm 14 17,co 18 (.ext 0 (.t 14)),co 19 (.ext 1 (.t 14)),cm 6 18,cm 7 19]) (.seq (.ops [4,5] [cm 20 6,cm 21 6,cm 22 1,ca 23 F.round_shl [.t 21,.t 22],cm 24 0,ca 25 F.natural_Cmp [.t 23,.t 24],co 26 (.bin .neq (.t 25) (.c (I 0))),cm 4 20,cm 5 26]) (.ret))))
def rq:FD:=⟨2,[[.o 2 []],[]],[.t 4,.t 5],xV⟩
def BO:Cmd:=.seq (.ops [0,2] [co 2 (.mv (.c (I 0)))]) (.seq (.seq (.ops [0,2,4] [cm 3 0,co 4 (.bin .geq (.t 3) (.c (U 65536)))]) (.cond (.t 4) (.seq (.ops [0] [cm 5 0,co 6 (.bin .shr (.t 5) (.c (W 16))),cm 0 6]) (.ops [0,2] [co 2 (.mv (.c (I 16)))])) (.skip))) (.seq (.seq (.ops [0,2,8] [cm 7 0,co 8 (.bin .geq (.t 7) (.c (U 256)))]) (.cond (.t 8) (.seq (.ops [0,2] [cm 9 0,co 10 (.bin .shr (.t 9) (.c (W 8))),cm 0 10]) (.ops [0,2] [cm 11 2,co 12 (.bin .add (.t 11) (.c (I 8))),cm 2 12])) (.skip))) (.seq (.ops [2] [cm 13 2,cm 14 0,co 15 (.cv .u8 (.t 14)),co 16 (.idxS (.c (.v (.string ⟨#[0,1,2,2,3,3,3,3,4,4,4,4,4,4,4,4,5,5,5,5,5,5,5,5,5,5,5,5,5,5,5,5,6,6,6,6,6,6,6,6,6,6,6,6,6,6,6,6,6,6,6,6,6,6,6,6,6,6,6,6,6,6,6,6,7,7,7,7,7,7,7,7,7,7,7,7,7,7,7,7,7,7,7,7,7,7,7,7,7,7,7,7,7,7,7,7,7,7,7,7,7,7,7,7,7,7,7,7,7,7,7,7,7,7,7,7,7,7,7,7,7,7,7,7,7,7,7,7,8,8,8,8,8,8,8,8,8,8,8,8,8,8,8,8,8,8,8,8,8,8,8,8,8,8,8,8,8,8,8,8,8,8,8,8,8,8,8,8,8,8,8,8,8,8,8,8,8,8,8,8,8,8,8,8,8,8,8,8,8,8,8,8,8,8,8,8,8,8,8,8,8,8,8,8,8,8,8,8,8,8,8,8,8,8,8,8,8,8,8,8,8,8,8,8,8,8,8,8,8,8,8,8,8,8,8,8,8,8,8,8,8,8,8,8,8,8,8,8,8,8,8,8,8,8,8,8]⟩))) (.t 15)),co 17 (.cv .i64 (.t 16)),b2 18 .add 13 17,cm 2 18]) (.ret))))
def jF:FD:=⟨1,[[]],[.t 2],BO⟩
def mK:Cmd:=.seq (.ops [0,1] [co 4 (.mv (.c (B false)))]) (.seq (.ops [4] [cm 5 0,cm 6 1,ca 7 F.slices_IndexFunc_Suint32_Suint32_ [.t 5,.t 6],co 8 (.bin .geq (.t 7) (.c (I 0))),cm 4 8]) (.ret))
def fZ:FD:=⟨2,[[]],[.t 4],mK⟩
def ws:Cmd:=.seq (.ops [0] [co 2 (.mv (.c (B false)))]) (.seq (.ops [2] [cm 3 0,co 4 (.len false (.t 3)),co 5 (.bin .gtr (.t 4) (.c (I 256))),cm 2 5]) (.ret))
def pf:FD:=⟨1,[[]],[.t 2],ws⟩
def jo:Cmd:=.seq (.ops [0,1,5,23,24,25,26] [b2 26 .lss 25 24]) (.seq (.cond (.t 26) (.skip) (.exit 0)) (.seq (.block 1 [0,1,5,23,24,25] (.seq (.ops [0,1,5,6,7,23,24,25] [cm 27 25,co 28 (.iadrS 1 (.t 23) (.t 25)),ld 29 1 28,cm 6 27,cm 7 29]) (.seq (.ops [0,1,5,6,8,23,24,25] [cm 30 7,co 31 (.cv .u64 (.t 30)),cm 8 31]) (.seq (.seq (.ops [0,1,5,6,8,23,24,25,36] [cm 32 6,co 33 (.bin .add (.t 32) (.c (I 1))),cm 34 0,co 35 (.len false (.t 34)),b2 36 .lss 33 35]) (.cond (.t 36) (.ops [0,1,5,6,8,23,24,25] [cm 37 8,cm 38 0,cm 39 6,co 40 (.bin .add (.t 39) (.c (I 1))),co 41 (.iadrS 1 (.t 38) (.t 40)),ld 42 1 41,co 43 (.cv .u64 (.t 42)),co 44 (.bin .shl (.t 43) (.c (W 32))),b2 45 .or 37 44,cm 8 45]) (.skip))) (.ops [0,1,5,23,24,25] [cm 46 5,cm 47 6,cm 48 8,cm 49 1,co 50 (.bin .rem (.t 49) (.c (I 32))),b2 51 .shr 48 50,co 52 (.cv .u32 (.t 51)),co 53 (.iadrS 1 (.t 46) (.t 47)),sr 1 (.t 53) (.t 52)]))))) (.ops [0,1,5,23,24,25] [co 54 (.bin .add (.t 25) (.c (I 1))),cm 25 54])))
def uj:Cmd:=.seq (.ops [0,1] [co 4 (.mv (.c .emp))]) (.seq (.ops [0,1] [cm 9 0,ca 10 F.natural_trim [.t 9],cm 0 10]) (.seq (.seq (.ops [0,1,15] [cm 11 1,co 12 (.bin .quo (.t 11) (.c (I 32))),cm 13 0,co 14 (.len false (.t 13)),b2 15 .geq 12 14]) (.cond (.t 15) (.seq (.ops [4] [co 4 (.mv (.c .emp))]) (.ret)) (.skip))) (.seq (.ops [0,1] [cm 16 0,cm 17 1,co 18 (.bin .quo (.t 17) (.c (I 32))),co 19 (.slc 1 (.t 16) (some (.t 18)) none none),cm 0 19]) (.seq (.ops [0,1,5] [cm 20 0,co 21 (.len false (.t 20)),⟨(some 22),none,.mkSl 1 [U 0] 4 (.t 21) (.t 21)⟩,cm 5 22]) (.seq (.seq (.ops [0,1,5,23,24,25] [cm 23 0,co 24 (.len false (.t 23)),co 25 (.mv (.c (I 0)))]) (.block 0 [5] (.loop [0,1,5,23,24,25] [22] jo))) (.seq (.ops [4] [cm 55 5,cm 4 55]) (.ret)))))))
def oC:FD:=⟨2,[[.o 2 []]],[.t 4],uj⟩
def rr:Cmd:=.seq (.ops [1,2] [bx 1 3 (.t 0),al 2 [B false,.emp,I 0]]) (.seq (.seq (.ops [1,2,11] [la 3 3 1,ca 4 F.dyadic_Valid [.t 3],co 5 (.un .not (.t 4)),cm 6 5,cg 7 6 false (.fadr 1 (.t 1)),⟨(some 8),(some (6,false)),.load 1 false (.t 7)⟩,cg 9 6 false (.len false (.t 8)),cg 10 6 false (.bin .eql (.t 9) (.c (I 0))),co 11 (.pick (.t 6) (.c (B true)) (.t 10))]) (.cond (.t 11) (.seq (.ops [2] [co 12 (.build [B false,.emp,I 0] []),sr 3 (.t 2) (.t 12)]) (.ret)) (.skip))) (.seq (.dops [2] [fa 13 1 1,ld 14 1 13,ca 15 F.slices_Clone_uint32_uint32_ [.t 14],fa 16 2 1,ld 17 1 16,co 18 (.build [B false,.emp,I 0] [(1,1,.t 15),(2,1,.t 17)]),sr 3 (.t 2) (.t 18)] [(2,4)]) (.ret)))
def mr:FD:=⟨1,[[.o 0 [],.o 2 [],.o 0 []]],[.cell 2 3 true],rr⟩
def ML:Cmd:=.seq (.ops [1] [bx 1 3 (.t 0),co 2 (.mv (.c (I 0)))]) (.seq (.seq (.ops [1,5] [la 3 3 1,ca 4 F.dyadic_Valid [.t 3],co 5 (.un .not (.t 4))]) (.cond (.t 5) (.seq (.ops [2] [co 2 (.mv (.c (I 0)))]) (.ret)) (.skip))) (.seq (.ops [2] [fa 6 1 1,ld 7 1 6,ca 8 F.dyadic_size [.t 7],cm 2 8]) (.ret)))
def JD:FD:=⟨1,[[]],[.t 2],ML⟩
def E2:Cmd:=.seq (.ops [0,1] [co 4 (.mv (.c .emp)),co 5 (.mv (.c .emp)),co 6 (.mv (.c (I 0)))]) (.seq (.block 0 [0,1] (.seq (.ops [0,1,9] [cm 10 0,cm 11 1,⟨(some 12),none,.buildSl 1 [.emp] 2 [(0,.t 10),(1,.t 11)]⟩,ca 13 F.natural_long [.t 12],cm 9 13]) (.cond (.t 9) (.seq (.ops [4,5,6] [co 4 (.mv (.c .emp)),co 5 (.mv (.c .emp)),co 6 (.mv (.c (I 9)))]) (.ret)) (.seq (.ops [0,1,14] [cm 15 1,ca 16 F.natural_trim [.t 15],co 17 (.len false (.t 16)),co 18 (.bin .eql (.t 17) (.c (I 0))),cm 14 18]) (.cond (.t 14) (.seq (.ops [4,5,6] [co 4 (.mv (.c .emp)),co 5 (.mv (.c .emp)),co 6 (.mv (.c (I 10)))]) (.ret)) (.skip)))))) (.seq (.ops [7,8] [cm 20 0,cm 21 1,ca 22 F.natural_divide [.t 20,.t 21],cm 19 22,co 23 (.ext 0 (.t 19)),co 24 (.ext 1 (.t 19)),cm 7 23,cm 8 24]) (.seq (.ops [4,5,6] [cm 25 7,ca 26 F.natural_trim [.t 25],ca 27 F.slices_Clip_uint32_uint32_ [.t 26],cm 28 8,ca 29 F.natural_trim [.t 28],ca 30 F.slices_Clip_uint32_uint32_ [.t 29],cm 4 27,cm 5 30,co 6 (.mv (.c (I 0)))]) (.ret))))
def DM:FD:=⟨2,[[.o 2 []],[.o 2 []],[]],[.t 4,.t 5,.t 6],E2⟩
def BP:Cmd:=.seq (.ops [0,1,2] [co 6 (.mv (.c (U 0))),co 7 (.mv (.c (U 0)))]) (.seq (.ops [8] [cm 9 0,co 10 (.cv .u64 (.t 9)),cm 11 1,co 12 (.cv .u64 (.t 11)),b2 13 .add 10 12,cm 14 2,co 15 (.cv .u64 (.t 14)),b2 16 .add 13 15,cm 8 16]) (.seq (.ops [6,8] [cm 17 8,co 18 (.cv .u32 (.t 17)),cm 6 18]) (.seq (.ops [6,7] [cm 19 8,co 20 (.bin .shr (.t 19) (.c (W 32))),co 21 (.cv .u32 (.t 20)),cm 7 21]) (.ret))))
def uk:FD:=⟨3,[[],[]],[.t 6,.t 7],BP⟩
def BQ:Cmd:=.seq (.ops [0,1,2] [co 6 (.mv (.c (U 0))),co 7 (.mv (.c (U 0)))]) (.seq (.ops [0,1,6] [cm 8 0,cm 9 1,b2 10 .sub 8 9,cm 11 2,b2 12 .sub 10 11,cm 6 12]) (.seq (.ops [6,7] [cm 13 0,co 14 (.un .xor (.t 13)),cm 15 1,b2 16 .and 14 15,cm 17 0,cm 18 1,b2 19 .xor 17 18,co 20 (.un .xor (.t 19)),cm 21 6,b2 22 .and 20 21,b2 23 .or 16 22,co 24 (.bin .shr (.t 23) (.c (W 31))),cm 7 24]) (.ret)))
def uo:FD:=⟨3,[[],[]],[.t 6,.t 7],BQ⟩
def mu:Cmd:=.seq (.ops [0,1,2,6] [al 6 [B false,.emp,I 0],co 7 (.mv (.c (I 0)))]) (.seq (.seq (.ops [0,1,2,6,15] [cm 8 1,co 9 (.len false (.t 8)),co 10 (.bin .gtr (.t 9) (.c (I 256))),cm 11 10,cg 12 11 false (.mv (.t 2)),⟨(some 13),(some (11,false)),.call (.c (.fn F.dyadic_exponent [] [])) [.t 12]⟩,cg 14 11 false (.un .not (.t 13)),co 15 (.pick (.t 11) (.c (B true)) (.t 14))]) (.cond (.t 15) (.seq (.ops [6,7] [co 16 (.build [B false,.emp,I 0] []),sr 3 (.t 6) (.t 16),co 7 (.mv (.c (I 1)))]) (.ret)) (.skip))) (.seq (.ops [6,7] [cm 17 0,cm 18 1,cm 19 2,ca 20 F.dyadic_canonical [.t 17,.t 18,.t 19],ca 21 F.dyadic_checked [.t 20],co 22 (.ext 0 (.t 21)),co 23 (.ext 1 (.t 21)),sr 3 (.t 6) (.t 22),cm 7 23]) (.ret)))
def iS:FD:=⟨3,[[.o 0 [],.o 2 [],.o 0 []],[]],[.cell 6 3 true,.t 7],mu⟩
def mL:Cmd:=.seq (.ops [0,1,7,8,9] [b2 9 .lss 8 7]) (.seq (.cond (.t 9) (.skip) (.exit 0)) (.seq (.block 1 [0,1,7,8] (.seq (.ops [0,1,5,7,8] [cm 10 8,cm 5 10]) (.seq (.ops [0,1,5,7,8,16] [cm 11 1,cm 12 0,cm 13 5,co 14 (.iadrS 1 (.t 12) (.t 13)),ld 15 1 14,⟨(some 16),none,.call (.t 11) [.t 15]⟩]) (.cond (.t 16) (.seq (.ops [4] [cm 17 5,cm 4 17]) (.ret)) (.skip))))) (.ops [0,1,7,8] [co 18 (.bin .add (.t 8) (.c (I 1))),cm 8 18])))
def oD:Cmd:=.seq (.ops [0,1] [co 4 (.mv (.c (I 0)))]) (.seq (.seq (.ops [0,1,7,8] [cm 6 0,co 7 (.len false (.t 6)),co 8 (.mv (.c (I 0)))]) (.block 0 [] (.loop [0,1,7,8] [] mL))) (.seq (.ops [4] [co 4 (.mv (.c (I (-1))))]) (.ret)))
def gO:FD:=⟨2,[[]],[.t 4],oD⟩
def AO:Cmd:=.seq (.ops [8,9,10,11,12,13,14,15,123,124,125,126] [b2 126 .lss 125 124]) (.seq (.cond (.t 126) (.skip) (.exit 4)) (.seq (.block 5 [8,9,10,11,12,13,14,15,123,124,125] (.seq (.ops [8,9,10,11,12,13,14,15,16,17,123,124,125] [cm 127 125,co 128 (.iadrS 1 (.t 123) (.t 125)),ld 129 1 128,cm 16 127,cm 17 129]) (.ops [8,9,10,11,12,13,14,15,123,124,125] [cm 131 9,cm 132 13,cm 133 16,b2 134 .add 132 133,cm 135 9,cm 136 13,cm 137 16,b2 138 .add 136 137,co 139 (.iadrS 1 (.t 135) (.t 138)),ld 140 1 139,cm 141 17,cm 142 15,ca 143 F.bits_Add32 [.t 140,.t 141,.t 142],cm 130 143,co 144 (.ext 0 (.t 130)),co 145 (.ext 1 (.t 130)),co 146 (.iadrS 1 (.t 131) (.t 134)),sr 1 (.t 146) (.t 144),cm 15 145]))) (.ops [8,9,10,11,12,13,14,15,123,124,125] [co 147 (.bin .add (.t 125) (.c (I 1))),cm 125 147])))
def AP:Cmd:=.seq (.seq (.ops [8,9,10,11,12,13,77] [cm 76 13,co 77 (.bin .geq (.t 76) (.c (I 0)))]) (.cond (.t 77) (.skip) (.exit 2))) (.seq (.block 3 [8,9,10,11,12,13] (.seq (.dops [8,9,10,11,12,13,14] [cm 80 9,cm 81 13,cm 82 11,b2 83 .add 81 82,co 84 (.iadrS 1 (.t 80) (.t 83)),ld 85 1 84,cm 86 9,cm 87 13,cm 88 11,b2 89 .add 87 88,co 90 (.bin .sub (.t 89) (.c (I 1))),co 91 (.iadrS 1 (.t 86) (.t 90)),ld 92 1 91,cm 93 9,cm 94 13,cm 95 11,b2 96 .add 94 95,co 97 (.bin .sub (.t 96) (.c (I 2))),co 98 (.iadrS 1 (.t 93) (.t 97)),ld 99 1 98,cm 100 10,cm 101 11,co 102 (.bin .sub (.t 101) (.c (I 1))),co 103 (.iadrS 1 (.t 100) (.t 102)),ld 104 1 103,cm 105 10,cm 106 11,co 107 (.bin .sub (.t 106) (.c (I 2))),co 108 (.iadrS 1 (.t 105) (.t 107)),ld 109 1 108,ca 110 F.natural_guess [.t 85,.t 92,.t 99,.t 104,.t 109],cm 14 110] []) (.seq (.seq (.ops [8,9,10,11,12,13,14,120] [cm 111 9,cm 112 13,cm 113 13,cm 114 11,b2 115 .add 113 114,co 116 (.bin .add (.t 115) (.c (I 1))),co 117 (.slc 1 (.t 111) (some (.t 112)) (some (.t 116)) none),cm 118 10,cm 119 14,ca 120 F.natural_take [.t 117,.t 118,.t 119]]) (.cond (.t 120) (.seq (.ops [8,9,10,11,12,13,14] [cm 121 14,co 122 (.bin .sub (.t 121) (.c (W 1))),cm 14 122]) (.seq (.ops [8,9,10,11,12,13,14,15] [co 15 (.mv (.c (U 0)))]) (.seq (.seq (.ops [8,9,10,11,12,13,14,15,123,124,125] [cm 123 10,co 124 (.len false (.t 123)),co 125 (.mv (.c (I 0)))]) (.block 4 [8,9,10,11,12,13,14,15] (.loop [8,9,10,11,12,13,14,15,123,124,125] [63,70] AO))) (.ops [8,9,10,11,12,13,14] [cm 148 9,cm 149 13,cm 150 11,b2 151 .add 149 150,co 152 (.iadrS 1 (.t 148) (.t 151)),ld 153 1 152,cm 154 15,b2 155 .add 153 154,co 156 (.iadrS 1 (.t 148) (.t 151)),sr 1 (.t 156) (.t 155)])))) (.skip))) (.ops [8,9,10,11,12,13] [cm 157 12,cm 158 13,cm 159 14,co 160 (.cv .u32 (.t 159)),co 161 (.iadrS 1 (.t 157) (.t 158)),sr 1 (.t 161) (.t 160)])))) (.ops [8,9,10,11,12,13] [cm 78 13,co 79 (.bin .sub (.t 78) (.c (I 1))),cm 13 79]))
def AQ:Cmd:=.seq (.seq (.ops [0,8,9,10,60] [cm 56 9,co 57 (.len false (.t 56)),cm 58 0,co 59 (.len false (.t 58)),b2 60 .leq 57 59]) (.cond (.t 60) (.skip) (.exit 0))) (.block 1 [0,8,9,10] (.ops [0,8,9,10] [cm 61 9,⟨(some 62),none,.buildSl 1 [U 0] 1 [(0,.c (U 0))]⟩,⟨(some 63),none,.app 1 4 (.t 61) (.t 62)⟩,cm 9 63]))
def E3:Cmd:=.seq (.ops [0,1] [co 4 (.mv (.c .emp)),co 5 (.mv (.c .emp))]) (.seq (.ops [0,1] [cm 18 0,ca 19 F.natural_trim [.t 18],cm 20 1,ca 21 F.natural_trim [.t 20],cm 0 19,cm 1 21]) (.seq (.seq (.ops [0,1,25] [cm 22 0,cm 23 1,ca 24 F.natural_Cmp [.t 22,.t 23],co 25 (.bin .lss (.t 24) (.c (I 0)))]) (.cond (.t 25) (.seq (.ops [4,5] [cm 26 0,ca 27 F.slices_Clone_uint32_uint32_ [.t 26],co 4 (.mv (.c .emp)),cm 5 27]) (.ret)) (.skip))) (.seq (.seq (.ops [0,1,30] [cm 28 1,co 29 (.len false (.t 28)),co 30 (.bin .eql (.t 29) (.c (I 1)))]) (.cond (.t 30) (.seq (.ops [6,7] [cm 32 0,cm 33 1,co 34 (.iadrS 1 (.t 33) (.c (I 0))),ld 35 1 34,ca 36 F.natural_short [.t 32,.t 35],cm 31 36,co 37 (.ext 0 (.t 31)),co 38 (.ext 1 (.t 31)),cm 6 37,cm 7 38]) (.seq (.ops [4,5] [cm 39 6,cm 40 7,⟨(some 41),none,.buildSl 1 [U 0] 1 [(0,.t 40)]⟩,cm 4 39,cm 5 41]) (.ret))) (.skip))) (.seq (.ops [0,1,8] [cm 42 1,cm 43 1,co 44 (.len false (.t 43)),co 45 (.bin .sub (.t 44) (.c (I 1))),co 46 (.iadrS 1 (.t 42) (.t 45)),ld 47 1 46,ca 48 F.bits_LeadingZeros32 [.t 47],cm 8 48]) (.seq (.ops [0,8,9,10] [cm 49 0,cm 50 8,ca 51 F.natural_shl [.t 49,.t 50],cm 52 1,cm 53 8,ca 54 F.natural_shl [.t 52,.t 53],ca 55 F.natural_trim [.t 54],cm 9 51,cm 10 55]) (.seq (.block 0 [8,9,10] (.loop [0,8,9,10] [63] AQ)) (.seq (.ops [8,9,10,11] [cm 64 10,co 65 (.len false (.t 64)),cm 11 65]) (.seq (.ops [8,9,10,11,12] [cm 66 9,co 67 (.len false (.t 66)),cm 68 11,b2 69 .sub 67 68,⟨(some 70),none,.mkSl 1 [U 0] 4 (.t 69) (.t 69)⟩,cm 12 70]) (.seq (.seq (.ops [8,9,10,11,12,13] [cm 71 9,co 72 (.len false (.t 71)),cm 73 11,b2 74 .sub 72 73,co 75 (.bin .sub (.t 74) (.c (I 1))),cm 13 75]) (.block 2 [8,9,11,12] (.loop [8,9,10,11,12,13] [63,70] AP))) (.seq (.ops [4,5] [cm 162 12,cm 163 9,cm 164 11,co 165 (.slc 1 (.t 163) none (some (.t 164)) none),cm 166 8,ca 167 F.natural_shr [.t 165,.t 166],cm 4 162,cm 5 167]) (.ret)))))))))))
def DN:FD:=⟨2,[[.o 2 []],[.o 2 []]],[.t 4,.t 5],E3⟩
def pg:Cmd:=.seq (.ops [0] [co 2 (.mv (.c (B false)))]) (.seq (.ops [2] [cm 3 0,co 4 (.bin .geq (.t 3) (.c (I (-32768)))),cm 5 4,cg 6 5 true (.mv (.t 0)),cg 7 5 true (.bin .leq (.t 6) (.c (I 32768))),co 8 (.pick (.t 5) (.t 7) (.c (B false))),cm 2 8]) (.ret))
def j3:FD:=⟨1,[[]],[.t 2],pg⟩
def BR:Cmd:=.seq (.seq (.ops [0,1,6,7,8,16] [cm 15 8,co 16 (.bin .geq (.t 15) (.c (I 0)))]) (.cond (.t 16) (.skip) (.exit 0))) (.seq (.block 1 [0,1,6,7,8] (.ops [0,1,6,7,8] [cm 20 6,cm 21 8,cm 22 7,cm 23 0,cm 24 8,co 25 (.iadrS 1 (.t 23) (.t 24)),ld 26 1 25,cm 27 1,ca 28 F.bits_Div32 [.t 22,.t 26,.t 27],cm 19 28,co 29 (.ext 0 (.t 19)),co 30 (.ext 1 (.t 19)),co 31 (.iadrS 1 (.t 20) (.t 21)),sr 1 (.t 31) (.t 29),cm 7 30])) (.ops [0,1,6,7,8] [cm 17 8,co 18 (.bin .sub (.t 17) (.c (I 1))),cm 8 18]))
def Hz:Cmd:=.seq (.ops [0,1] [co 4 (.mv (.c .emp)),co 5 (.mv (.c (U 0)))]) (.seq (.ops [0,1,6] [cm 9 0,co 10 (.len false (.t 9)),⟨(some 11),none,.mkSl 1 [U 0] 4 (.t 10) (.t 10)⟩,cm 6 11]) (.seq (.ops [0,1,6,7] [co 7 (.mv (.c (U 0)))]) (.seq (.seq (.ops [0,1,6,7,8] [cm 12 0,co 13 (.len false (.t 12)),co 14 (.bin .sub (.t 13) (.c (I 1))),cm 8 14]) (.block 0 [6,7] (.loop [0,1,6,7,8] [11] BR))) (.seq (.ops [4,5] [cm 32 6,cm 33 7,cm 4 32,cm 5 33]) (.ret)))))
def E4:FD:=⟨2,[[.o 2 []],[]],[.t 4,.t 5],Hz⟩
def yF:Cmd:=.seq (.ops [0] [co 2 (.mv (.c (I 0)))]) (.seq (.ops [2] [cm 3 0,ca 4 F.bits_Len32 [.t 3],co 5 (.bin .sub (.c (I 32)) (.t 4)),cm 2 5]) (.ret))
def xW:FD:=⟨1,[[]],[.t 2],yF⟩
def HA:Cmd:=.seq (.ops [0,1,2,3,4] [co 10 (.mv (.c (W 0)))]) (.seq (.seq (.ops [0,1,2,3,4,14] [cm 12 0,cm 13 3,b2 14 .geq 12 13]) (.cond (.t 14) (.seq (.ops [10] [cm 15 0,cm 16 3,b2 17 .sub 15 16,co 18 (.cv .u64 (.t 17)),co 19 (.bin .shl (.t 18) (.c (W 32))),cm 20 1,co 21 (.cv .u64 (.t 20)),b2 22 .add 19 21,cm 23 3,co 24 (.cv .u64 (.t 23)),b2 25 .add 22 24,cm 26 2,cm 27 3,cm 28 4,ca 29 F.natural_digit [.c (W 4294967295),.t 25,.t 26,.t 27,.t 28],cm 10 29]) (.ret)) (.skip))) (.seq (.ops [2,3,4,11] [cm 30 0,co 31 (.cv .u64 (.t 30)),co 32 (.bin .shl (.t 31) (.c (W 32))),cm 33 1,co 34 (.cv .u64 (.t 33)),b2 35 .or 32 34,cm 11 35]) (.seq (.dops [10] [cm 36 11,cm 37 3,co 38 (.cv .u64 (.t 37)),b2 39 .quo 36 38,cm 40 11,cm 41 3,co 42 (.cv .u64 (.t 41)),b2 43 .rem 40 42,cm 44 2,cm 45 3,cm 46 4,ca 47 F.natural_digit [.t 39,.t 43,.t 44,.t 45,.t 46],cm 10 47] []) (.ret))))
def E5:FD:=⟨5,[[]],[.t 10],HA⟩
def DO:Cmd:=.seq (.ops [0,1,2,7,8,14,15,16,17] [b2 17 .lss 16 15]) (.seq (.cond (.t 17) (.skip) (.exit 0)) (.seq (.block 1 [0,1,2,7,8,14,15,16] (.seq (.ops [0,1,2,7,8,9,10,14,15,16] [cm 18 16,co 19 (.iadrS 1 (.t 14) (.t 16)),ld 20 1 19,cm 9 18,cm 10 20]) (.seq (.ops [0,1,2,8,9,11,14,15,16] [cm 21 2,cm 22 10,co 23 (.cv .u64 (.t 22)),b2 24 .mul 21 23,cm 25 7,b2 26 .add 24 25,cm 11 26]) (.seq (.ops [0,1,2,7,8,9,11,14,15,16] [cm 27 11,co 28 (.bin .shr (.t 27) (.c (W 32))),cm 7 28]) (.seq (.ops [0,1,2,7,9,12,14,15,16] [cm 29 0,cm 30 9,co 31 (.iadrS 1 (.t 29) (.t 30)),ld 32 1 31,co 33 (.cv .u64 (.t 32)),cm 34 11,co 35 (.bin .and (.t 34) (.c (W 4294967295))),b2 36 .sub 33 35,cm 37 8,b2 38 .sub 36 37,cm 12 38]) (.ops [0,1,2,7,8,14,15,16] [cm 39 0,cm 40 9,cm 41 12,co 42 (.cv .u32 (.t 41)),cm 43 12,co 44 (.bin .shr (.t 43) (.c (W 63))),co 45 (.iadrS 1 (.t 39) (.t 40)),sr 1 (.t 45) (.t 42),cm 8 44])))))) (.ops [0,1,2,7,8,14,15,16] [co 46 (.bin .add (.t 16) (.c (I 1))),cm 16 46])))
def JE:Cmd:=.seq (.ops [0,1,2] [co 6 (.mv (.c (B false)))]) (.seq (.ops [0,1,2,7,8] [co 7 (.mv (.c (W 0))),co 8 (.mv (.c (W 0)))]) (.seq (.seq (.ops [0,1,2,7,8,14,15,16] [cm 14 1,co 15 (.len false (.t 14)),co 16 (.mv (.c (I 0)))]) (.block 0 [0,1,7,8] (.loop [0,1,2,7,8,14,15,16] [] DO))) (.seq (.ops [0,1,13] [cm 47 0,cm 48 1,co 49 (.len false (.t 48)),co 50 (.iadrS 1 (.t 47) (.t 49)),ld 51 1 50,co 52 (.cv .u64 (.t 51)),cm 53 7,b2 54 .sub 52 53,cm 55 8,b2 56 .sub 54 55,cm 13 56]) (.seq (.ops [13] [cm 57 0,cm 58 1,co 59 (.len false (.t 58)),cm 60 13,co 61 (.cv .u32 (.t 60)),co 62 (.iadrS 1 (.t 57) (.t 59)),sr 1 (.t 62) (.t 61)]) (.seq (.ops [6] [cm 63 13,co 64 (.bin .shr (.t 63) (.c (W 63))),co 65 (.bin .eql (.t 64) (.c (W 1))),cm 6 65]) (.ret))))))
def HB:FD:=⟨3,[[]],[.t 6],JE⟩
def PP:Cmd:=.seq (.ops [0,1,2] [co 6 (.mv (.c (U 0))),co 7 (.mv (.c (U 0)))]) (.seq (.seq (.ops [0,1,2,15] [cm 9 2,co 10 (.bin .neq (.t 9) (.c (U 0))),cm 11 10,cg 12 11 true (.mv (.t 2)),cg 13 11 true (.mv (.t 0)),cg 14 11 true (.bin .leq (.t 12) (.t 13)),co 15 (.pick (.t 11) (.t 14) (.c (B false)))]) (.cond (.t 15) (.ops [0,1,2] [⟨(some 16),none,.load 1 false (.c .any)⟩,⟨none,none,.bad⟩]) (.skip))) (.seq (.ops [2,8] [cm 17 0,co 18 (.cv .u64 (.t 17)),co 19 (.bin .shl (.t 18) (.c (W 32))),cm 20 1,co 21 (.cv .u64 (.t 20)),b2 22 .or 19 21,cm 8 22]) (.seq (.dops [6,7] [cm 23 8,cm 24 2,co 25 (.cv .u64 (.t 24)),b2 26 .quo 23 25,co 27 (.cv .u32 (.t 26)),cm 28 8,cm 29 2,co 30 (.cv .u64 (.t 29)),b2 31 .rem 28 30,co 32 (.cv .u32 (.t 31)),cm 6 27,cm 7 32] []) (.ret))))
def MM:FD:=⟨3,[[],[]],[.t 6,.t 7],PP⟩
def BS:Cmd:=.seq (.seq (.ops [0,1,2,3,4,24] [cm 11 1,co 12 (.bin .lss (.t 11) (.c (W 4294967296))),cm 13 12,cg 14 13 true (.mv (.t 0)),cg 15 13 true (.mv (.t 4)),cg 16 13 true (.cv .u64 (.t 15)),cg 17 13 true (.bin .mul (.t 14) (.t 16)),cg 18 13 true (.mv (.t 1)),cg 19 13 true (.bin .shl (.t 18) (.c (W 32))),cg 20 13 true (.mv (.t 2)),cg 21 13 true (.cv .u64 (.t 20)),cg 22 13 true (.bin .or (.t 19) (.t 21)),cg 23 13 true (.bin .gtr (.t 17) (.t 22)),co 24 (.pick (.t 13) (.t 23) (.c (B false)))]) (.cond (.t 24) (.skip) (.exit 0))) (.block 1 [0,1,2,3,4] (.seq (.ops [0,1,2,3,4] [cm 25 0,co 26 (.bin .sub (.t 25) (.c (W 1))),cm 0 26]) (.ops [0,1,2,3,4] [cm 27 1,cm 28 3,co 29 (.cv .u64 (.t 28)),b2 30 .add 27 29,cm 1 30])))
def HC:Cmd:=.seq (.ops [0,1,2,3,4] [co 10 (.mv (.c (W 0)))]) (.seq (.block 0 [0] (.loop [0,1,2,3,4] [] BS)) (.seq (.ops [10] [cm 31 0,cm 10 31]) (.ret)))
def E6:FD:=⟨5,[[]],[.t 10],HC⟩
def aer:List (Nat × FD):=[(7,bJ),
 (9,PM),
 (11,s6),
 (12,nY),
 (13,jR),
 (14,l9),
 (18,ja),
 (19,qS),
 (22,oW),
 (23,fV),
 (24,dV),
 (34,pt),
 (35,dW),
 (36,pJ),
 (37,ig),
 (38,dO),
 (39,et),
 (40,oZ),
 (41,je),
 (42,fW),
 (44,jS),
 (46,qT),
 (47,jT),
 (48,acj),
 (49,wd),
 (52,pK),
 (53,me),
 (54,sd),
 (55,n6),
 (56,jU),
 (57,dY),
 (58,mT),
 (59,nC),
 (60,jC),
 (61,lI),
 (64,gH),
 (65,mD),
 (69,eJ),
 (70,iP),
 (71,im),
 (72,eB),
 (73,lK),
 (74,lL),
 (75,hF),
 (78,mh),
 (79,jW),
 (82,wg),
 (84,s7),
 (85,tZ),
 (86,dP),
 (87,dA),
 (88,kr),
 (89,gT),
 (90,ub),
 (91,xO),
 (92,jg),
 (93,eu),
 (94,kf),
 (95,iQ),
 (98,pZ),
 (99,sf),
 (100,eW),
 (101,pM),
 (102,ji),
 (103,mV),
 (104,p7),
 (105,p8),
 (106,si),
 (107,WD),
 (109,dD),
 (110,kF),
 (111,jj),
 (112,cZ),
 (113,nD),
 (114,ju),
 (115,lN),
 (116,DK),
 (117,DL),
 (118,iH),
 (119,Ht),
 (120,py),
 (121,uS),
 (122,lO),
 (123,uT),
 (126,xq),
 (127,eC),
 (128,mn),
 (129,kH),
 (130,o7),
 (131,eM),
 (132,jy),
 (133,mW),
 (134,sk),
 (135,pO),
 (136,fY),
 (137,kt),
 (139,oe),
 (140,cq),
 (141,jD),
 (142,bh),
 (143,sn),
 (144,ef),
 (145,og),
 (146,zM),
 (148,jk),
 (149,so),
 (150,oi),
 (151,ku),
 (152,jv),
 (153,mp),
 (154,kJ),
 (155,mX),
 (156,jY),
 (157,Tq),
 (158,jl),
 (159,EZ),
 (160,JC),
 (161,xQ),
 (162,xR),
 (163,wl),
 (164,xS),
 (165,wm),
 (166,rj),
 (167,rk),
 (168,iR),
 (169,kK),
 (170,ge),
 (171,eX),
 (172,ov),
 (173,kL),
 (177,fN),
 (178,kM),
 (179,j1),
 (180,xU),
 (181,kN),
 (182,mZ),
 (183,rm),
 (184,m5),
 (185,sw),
 (186,pd),
 (187,ui),
 (188,kO),
 (189,gb),
 (190,m7),
 (191,rn),
 (192,kv),
 (194,MK),
 (195,PO),
 (196,sy),
 (197,pe),
 (198,oB),
 (199,sz),
 (202,lT),
 (203,nH),
 (204,wr),
 (205,rq),
 (206,jF),
 (207,fZ),
 (208,pf),
 (210,oC),
 (211,mr),
 (212,JD),
 (213,DM),
 (214,uk),
 (215,uo),
 (218,iS),
 (219,gO),
 (220,DN),
 (221,j3),
 (222,E4),
 (223,xW),
 (224,E5),
 (225,HB),
 (226,MM),
 (227,E6)]
def shL:List (Nat × List (List Sh)):=[(7,[[.o 0 [],.o 2 [],.o 0 []],[.o 8 [.o 0 [],.o 2 [],.o 0 [],.o 0 [],.o 2 [],.o 0 [],.o 0 []]],[]]),
 (11,[[.o 8 [.o 0 [],.o 2 [],.o 0 [],.o 0 [],.o 2 [],.o 0 [],.o 0 []]]]),
 (12,[[.o 0 [],.o 5 [.o 2 [],.o 0 [],.o 2 [],.o 0 []]],[.o 8 [.o 0 [],.o 2 [],.o 0 [],.o 0 [],.o 2 [],.o 0 [],.o 0 []]],[]]),
 (13,[[.o 0 [],.o 5 [.o 2 [],.o 0 [],.o 2 [],.o 0 []]],[.o 8 [.o 0 [],.o 2 [],.o 0 [],.o 0 [],.o 2 [],.o 0 [],.o 0 []]],[]]),
 (14,[[.o 0 [],.o 5 [.o 2 [],.o 0 [],.o 2 [],.o 0 []]],[.o 8 [.o 0 [],.o 2 [],.o 0 [],.o 0 [],.o 2 [],.o 0 [],.o 0 []]],[]]),
 (18,[[.o 0 [],.o 2 [],.o 0 [],.o 0 [],.o 2 [],.o 0 [],.o 0 []]]),
 (19,[[.o 0 [],.o 2 [],.o 0 [],.o 0 [],.o 2 [],.o 0 [],.o 0 []],[.o 0 [],.o 2 [],.o 0 [],.o 0 [],.o 2 [],.o 0 [],.o 0 []]]),
 (22,[[.o 0 [],.o 2 [],.o 0 []]]),
 (23,[[.o 0 [],.o 2 [],.o 0 []],[.o 0 [],.o 2 [],.o 0 []]]),
 (24,[[.o 0 [],.o 2 [],.o 0 [],.o 0 [],.o 2 [],.o 0 [],.o 0 []],[.o 0 [],.o 2 [],.o 0 [],.o 0 [],.o 2 [],.o 0 [],.o 0 []]]),
 (34,[[.o 0 [],.o 2 [],.o 0 []]]),
 (35,[[.o 0 [],.o 2 [],.o 0 []]]),
 (36,[[],[.o 0 [],.o 2 [],.o 0 []]]),
 (37,[[.o 0 [],.o 2 [],.o 0 [],.o 0 [],.o 2 [],.o 0 [],.o 0 []],[]]),
 (38,[[.o 8 [.o 0 [],.o 2 [],.o 0 [],.o 0 [],.o 2 [],.o 0 [],.o 0 []]],[]]),
 (39,[[.o 0 [],.o 2 [],.o 0 [],.o 0 [],.o 2 [],.o 0 [],.o 0 []]]),
 (41,[[.o 0 [],.o 5 [.o 2 [],.o 0 [],.o 2 [],.o 0 []]]]),
 (42,[[.o 0 [],.o 2 [],.o 0 [],.o 0 [],.o 2 [],.o 0 [],.o 0 []],[.o 0 [],.o 2 [],.o 0 [],.o 0 [],.o 2 [],.o 0 [],.o 0 []]]),
 (44,[[.o 0 [],.o 2 [],.o 0 [],.o 0 [],.o 2 [],.o 0 [],.o 0 []],[.o 0 [],.o 2 [],.o 0 [],.o 0 [],.o 2 [],.o 0 [],.o 0 []],[]]),
 (46,[[.o 0 [],.o 2 [],.o 0 [],.o 0 [],.o 2 [],.o 0 [],.o 0 []],[.o 0 [],.o 2 [],.o 0 [],.o 0 [],.o 2 [],.o 0 [],.o 0 []],[]]),
 (47,[[.o 0 [],.o 2 [],.o 0 [],.o 0 [],.o 2 [],.o 0 [],.o 0 []],[.o 0 [],.o 2 [],.o 0 [],.o 0 [],.o 2 [],.o 0 [],.o 0 []],[]]),
 (49,[[.o 0 [],.o 2 [],.o 0 [],.o 0 [],.o 2 [],.o 0 [],.o 0 []],[.o 0 [],.o 2 [],.o 0 [],.o 0 [],.o 2 [],.o 0 [],.o 0 []]]),
 (52,[[.o 0 [],.o 2 [],.o 0 [],.o 0 [],.o 2 [],.o 0 [],.o 0 []]]),
 (53,[[.o 0 [],.o 5 [.o 2 [],.o 0 [],.o 2 [],.o 0 []]],[.o 8 [.o 0 [],.o 2 [],.o 0 [],.o 0 [],.o 2 [],.o 0 [],.o 0 []]],[]]),
 (55,[[.o 0 [],.o 2 [],.o 0 [],.o 0 [],.o 2 [],.o 0 [],.o 0 []],[],[]]),
 (56,[[.o 0 [],.o 5 [.o 2 [],.o 0 [],.o 2 [],.o 0 []]]]),
 (57,[[.o 0 [],.o 2 [],.o 0 []],[.o 0 [],.o 2 [],.o 0 []],[.o 0 [],.o 2 [],.o 0 [],.o 0 [],.o 2 [],.o 0 [],.o 0 []],[]]),
 (58,[[.o 0 [],.o 5 [.o 2 [],.o 0 [],.o 2 [],.o 0 []]],[]]),
 (59,[[],[],[.o 0 [],.o 2 [],.o 0 [],.o 0 [],.o 2 [],.o 0 [],.o 0 []]]),
 (61,[[.o 0 [],.o 2 [],.o 0 [],.o 0 [],.o 2 [],.o 0 [],.o 0 []],[.o 0 [],.o 2 [],.o 0 [],.o 0 [],.o 2 [],.o 0 [],.o 0 []]]),
 (64,[[.o 0 [],.o 2 [],.o 0 []],[.o 0 [],.o 2 [],.o 0 []]]),
 (65,[[.o 0 [],.o 2 [],.o 0 []]]),
 (69,[[.o 0 [],.o 2 [],.o 0 []]]),
 (70,[[.o 0 [],.o 2 [],.o 0 []]]),
 (71,[[.o 0 [],.o 2 [],.o 0 []],[.o 0 [],.o 2 [],.o 0 []]]),
 (72,[[.o 0 [],.o 2 [],.o 0 [],.o 0 [],.o 2 [],.o 0 [],.o 0 []]]),
 (73,[[.o 0 [],.o 2 [],.o 0 []],[.o 0 [],.o 2 [],.o 0 []]]),
 (74,[[.o 0 [],.o 2 [],.o 0 []],[.o 0 [],.o 2 [],.o 0 []]]),
 (75,[[.o 0 [],.o 5 [.o 2 [],.o 0 [],.o 2 [],.o 0 []]]]),
 (78,[[.o 0 [],.o 2 [],.o 0 []],[.o 0 [],.o 2 [],.o 0 []]]),
 (79,[[.o 0 [],.o 5 [.o 2 [],.o 0 [],.o 2 [],.o 0 []]],[.o 8 [.o 0 [],.o 2 [],.o 0 [],.o 0 [],.o 2 [],.o 0 [],.o 0 []]]]),
 (82,[[.o 0 [],.o 2 [],.o 0 []],[.o 0 [],.o 2 [],.o 0 []]]),
 (84,[[.o 2 []]]),
 (86,[[],[.o 2 []],[.o 0 [],.o 2 [],.o 0 []]]),
 (88,[[.o 8 [.o 0 [],.o 2 [],.o 0 [],.o 0 [],.o 2 [],.o 0 [],.o 0 []]]]),
 (90,[[.o 0 [],.o 2 [],.o 0 []],[]]),
 (91,[[.o 0 [],.o 2 [],.o 0 []],[]]),
 (92,[[.o 0 [],.o 2 [],.o 0 []],[],[.o 0 [],.o 2 [],.o 0 []],[]]),
 (93,[[.o 8 [.o 0 [],.o 2 [],.o 0 [],.o 0 [],.o 2 [],.o 0 [],.o 0 []]],[]]),
 (94,[[],[.o 2 [],.o 0 [],.o 2 [],.o 0 []]]),
 (95,[[.o 2 []],[.o 2 []]]),
 (98,[[.o 0 [],.o 2 [],.o 0 []],[.o 0 [],.o 2 [],.o 0 []],[]]),
 (99,[[.o 0 [],.o 2 [],.o 0 []],[.o 0 [],.o 2 [],.o 0 []],[]]),
 (100,[[.o 0 [],.o 2 [],.o 0 []],[.o 0 [],.o 2 [],.o 0 []]]),
 (102,[[.o 2 []]]),
 (103,[[.o 0 [],.o 2 [],.o 0 [],.o 0 [],.o 2 [],.o 0 [],.o 0 []]]),
 (104,[[.o 0 [],.o 2 [],.o 0 [],.o 0 [],.o 2 [],.o 0 [],.o 0 []],[.o 0 [],.o 2 [],.o 0 [],.o 0 [],.o 2 [],.o 0 [],.o 0 []],[],[],[]]),
 (105,[[.o 0 [],.o 2 [],.o 0 []],[.o 0 [],.o 2 [],.o 0 []],[]]),
 (106,[[.o 0 [],.o 2 [],.o 0 []],[.o 0 [],.o 2 [],.o 0 []],[]]),
 (109,[[.o 0 [],.o 2 [],.o 0 [],.o 0 [],.o 2 [],.o 0 [],.o 0 []],[],[]]),
 (110,[[.o 0 [],.o 5 [.o 2 [],.o 0 [],.o 2 [],.o 0 []]]]),
 (111,[[.o 2 []],[]]),
 (112,[[.o 8 [.o 0 [],.o 2 [],.o 0 [],.o 0 [],.o 2 [],.o 0 [],.o 0 []]],[]]),
 (116,[[],[.o 0 [],.o 2 [],.o 0 [],.o 0 [],.o 2 [],.o 0 [],.o 0 []],[.o 0 [],.o 2 [],.o 0 [],.o 0 [],.o 2 [],.o 0 [],.o 0 []]]),
 (117,[[],[.o 0 [],.o 2 [],.o 0 [],.o 0 [],.o 2 [],.o 0 [],.o 0 []],[.o 0 [],.o 2 [],.o 0 [],.o 0 [],.o 2 [],.o 0 [],.o 0 []]]),
 (119,[[.o 0 [],.o 2 [],.o 0 [],.o 0 [],.o 2 [],.o 0 [],.o 0 []],[.o 0 [],.o 2 [],.o 0 [],.o 0 [],.o 2 [],.o 0 [],.o 0 []],[]]),
 (120,[[.o 0 [],.o 2 [],.o 0 []]]),
 (121,[[.o 0 [],.o 2 [],.o 0 []]]),
 (122,[[.o 0 [],.o 2 [],.o 0 []],[.o 0 [],.o 2 [],.o 0 []]]),
 (123,[[.o 0 [],.o 2 [],.o 0 []]]),
 (126,[[],[.o 2 []],[]]),
 (127,[[.o 0 [],.o 2 [],.o 0 []]]),
 (128,[[.o 0 [],.o 2 [],.o 0 []]]),
 (129,[[.o 2 []],[.o 2 []]]),
 (130,[[.o 2 []],[]]),
 (131,[[.o 0 [],.o 2 [],.o 0 []]]),
 (132,[[.o 2 []],[]]),
 (134,[[.o 2 []]]),
 (135,[[.o 2 []],[.o 2 []]]),
 (136,[[.o 0 [],.o 2 [],.o 0 []],[.o 0 [],.o 2 [],.o 0 []]]),
 (137,[[.o 0 [],.o 2 [],.o 0 [],.o 0 [],.o 2 [],.o 0 [],.o 0 []]]),
 (139,[[.o 2 []],[.o 2 []]]),
 (140,[[.o 5 [.o 2 [],.o 0 [],.o 2 [],.o 0 []]],[.o 2 []],[]]),
 (141,[[.o 2 [],.o 0 [],.o 2 [],.o 0 []],[.o 2 []]]),
 (142,[[],[],[.o 5 [.o 2 [],.o 0 [],.o 2 [],.o 0 []]]]),
 (143,[[.o 0 [],.o 2 [],.o 0 []]]),
 (145,[[.o 0 [],.o 2 [],.o 0 []],[],[]]),
 (146,[[.o 2 []]]),
 (148,[[.o 0 [],.o 2 [],.o 0 []],[.o 0 [],.o 2 [],.o 0 []],[],[]]),
 (149,[[.o 2 []]]),
 (150,[[.o 2 []],[.o 2 []]]),
 (151,[[.o 0 [],.o 2 [],.o 0 []]]),
 (152,[[],[.o 2 []],[]]),
 (153,[[.o 0 [],.o 2 [],.o 0 []]]),
 (154,[[.o 0 [],.o 2 [],.o 0 []],[.o 0 [],.o 2 [],.o 0 []],[],[]]),
 (155,[[.o 0 [],.o 2 [],.o 0 [],.o 0 [],.o 2 [],.o 0 [],.o 0 []]]),
 (156,[[.o 0 [],.o 2 [],.o 0 []],[],[],[]]),
 (158,[[.o 0 [],.o 2 [],.o 0 [],.o 0 [],.o 2 [],.o 0 [],.o 0 []]]),
 (159,[[.o 0 [],.o 2 [],.o 0 []],[.o 0 [],.o 2 [],.o 0 []],[]]),
 (160,[[.o 0 [],.o 2 [],.o 0 []],[.o 0 [],.o 2 [],.o 0 []],[]]),
 (161,[[.o 2 []],[]]),
 (162,[[.o 2 []],[.o 2 []]]),
 (163,[[.o 2 []],[.o 2 []]]),
 (164,[[.o 2 []]]),
 (165,[[.o 2 []]]),
 (166,[[.o 2 []],[]]),
 (167,[[.o 2 []]]),
 (168,[[.o 2 []],[]]),
 (169,[[.o 2 []],[]]),
 (171,[[.o 2 []],[.o 2 []]]),
 (172,[[.o 2 []],[.o 2 []]]),
 (173,[[.o 2 []],[.o 2 []]]),
 (176,[[.o 5 [.o 2 [],.o 0 [],.o 2 [],.o 0 []]],[]]),
 (177,[[.o 2 []]]),
 (178,[[],[.o 4 [.o 0 [],.o 2 [],.o 0 []]]]),
 (179,[[],[.o 2 [],.o 0 [],.o 0 []],[],[]]),
 (180,[[.o 0 [],.o 2 [],.o 0 []]]),
 (181,[[.o 0 [],.o 2 [],.o 0 []],[.o 0 [],.o 2 [],.o 0 []],[]]),
 (182,[[.o 2 []]]),
 (183,[[.o 2 [.o 2 []]]]),
 (184,[[.o 2 []]]),
 (185,[[.o 2 []],[.o 2 []]]),
 (186,[[.o 2 []]]),
 (187,[[.o 2 []]]),
 (188,[[.o 2 []],[]]),
 (189,[[.o 2 []]]),
 (190,[[.o 0 [],.o 2 [],.o 0 [],.o 0 [],.o 2 [],.o 0 [],.o 0 []]]),
 (191,[[.o 0 [],.o 2 [],.o 0 [],.o 0 [],.o 2 [],.o 0 [],.o 0 []]]),
 (192,[[.o 0 [],.o 2 [],.o 0 []],[],[],[],[]]),
 (195,[[.o 0 [],.o 2 [],.o 0 []],[.o 0 [],.o 2 [],.o 0 []],[],[]]),
 (196,[[.o 2 []],[]]),
 (198,[[.o 2 []],[.o 2 []]]),
 (199,[[.o 2 []],[.o 2 []]]),
 (203,[[.o 2 [],.o 0 [],.o 0 []],[],[]]),
 (204,[[.o 2 []],[]]),
 (205,[[.o 2 []],[]]),
 (207,[[.o 2 [.o 2 []]],[]]),
 (208,[[.o 2 []]]),
 (210,[[.o 2 []],[]]),
 (211,[[.o 0 [],.o 2 [],.o 0 []]]),
 (212,[[.o 0 [],.o 2 [],.o 0 []]]),
 (213,[[.o 2 []],[.o 2 []]]),
 (218,[[],[.o 2 []],[]]),
 (219,[[.o 2 [.o 2 []]],[]]),
 (220,[[.o 2 []],[.o 2 []]]),
 (222,[[.o 2 []],[]]),
 (225,[[.o 2 []],[.o 2 []],[]])]
def mdL:List (Nat × List Nat):=[(140,[3,0,0]),(142,[2,0,0]),(144,[2,0,0]),(175,[0,1]),(225,[1,0,0])]
def keepL:List Nat:=[113,116,117]
end Go.Ab
namespace Go.Ab
def ac:List Nat→Nat
 | []=>0
 | x::l=>x+4294967296*ac l
def Lb (m:List Nat):Prop:=∀ x ∈ m,x < 4294967296
def dy:Nat→Nat→List Nat
 | 0,_=>[]
 | k+1,n=>n % 4294967296::dy k (n / 4294967296)
def aq (n:Nat):List Nat:=if h:n=0 then [] else n % 4294967296::aq (n / 4294967296)
termination_by n
decreasing_by omega
theorem eE:aq 0=[]:=by rw [aq]; rfl
theorem mE {n:Nat} (h:n ≠ 0):aq n=n % 4294967296::aq (n / 4294967296):=by rw [aq,dif_neg h]
theorem jG {n:Nat}:aq n=[]↔n=0:=by
 constructor
 ·intro h
  by_cases hn:n=0
  ·exact hn
  ·rw [mE hn] at h; cases h
 ·rintro rfl; exact eE
theorem aW (n:Nat):ac (aq n)=n:=by
 induction n using Nat.strongRecOn with
 | ind n ih =>
  by_cases h:n=0
  ·subst h; rw [eE]; rfl
  ·rw [mE h,ac,ih _ (by omega)]
   omega
theorem bo (n:Nat):Lb (aq n):=by
 induction n using Nat.strongRecOn with
 | ind n ih =>
  by_cases h:n=0
  ·subst h; rw [eE]; intro x hx; simp at hx
  ·rw [mE h]
   intro x hx
   rcases List.mem_cons.1 hx with rfl | hx
   ·omega
   ·exact ih _ (by omega) x hx
theorem BT:Lb []:=fun x hx=>by simp at hx
theorem fU {x:Nat} {l:List Nat}:Lb (x::l)↔x < 4294967296∧Lb l:=by
 constructor
 ·intro h; exact ⟨h x (by simp),fun y hy=>h y (by simp [hy])⟩
 ·rintro ⟨h1,h2⟩ y hy
  rcases List.mem_cons.1 hy with rfl | hy
  ·exact h1
  ·exact h2 y hy
theorem nI {l r:List Nat}:Lb (l++r)↔Lb l∧Lb r:=by
 constructor
 ·intro h; exact ⟨fun x hx=>h x (by simp [hx]),fun x hx=>h x (by simp [hx])⟩
 ·rintro ⟨h1,h2⟩ x hx
  rcases List.mem_append.1 hx with hx | hx
  ·exact h1 x hx
  ·exact h2 x hx
theorem qt {l:List Nat} (h:Lb l) (n:Nat):Lb (l.take n):=fun x hx=>h x (List.mem_of_mem_take hx)
theorem vr {l:List Nat} (h:Lb l) (n:Nat):Lb (l.drop n):=fun x hx=>h x (List.mem_of_mem_drop hx)
theorem cA {l:List Nat} (h:Lb l) (i:Nat):l.getD i 0 < 4294967296:=by
 rw [List.getD_eq_getElem?_getD]
 cases hq:l[i]? with
 | none=>simp
 | some x=>exact h x (List.mem_of_getElem? hq)
theorem fO (l r:List Nat):ac (l++r)=ac l+4294967296 ^ l.length*ac r:=by
 induction l with
 | nil=>simp [ac]
 | cons x l ih =>
  simp only [List.cons_append,ac,ih,List.length_cons,Nat.pow_succ,Nat.mul_add]
  have:4294967296*(4294967296 ^ l.length*ac r)=4294967296 ^ l.length*4294967296*ac r:=by
   rw [Nat.mul_comm (4294967296 ^ l.length) 4294967296,Nat.mul_assoc]
  omega
theorem dI {l:List Nat} (h:Lb l):ac l < 4294967296 ^ l.length:=by
 induction l with
 | nil=>simp [ac]
 | cons x l ih =>
  obtain ⟨h1,h2⟩:=fU.1 h
  have:=ih h2
  simp only [ac,List.length_cons,Nat.pow_succ]
  omega
theorem cr (k n:Nat):(dy k n).length=k:=by
 induction k generalizing n with
 | zero=>rfl
 | succ k ih=>simp [dy,ih]
theorem oE (k n:Nat):Lb (dy k n):=by
 induction k generalizing n with
 | zero=>exact BT
 | succ k ih=>exact fU.2 ⟨by omega,ih _⟩
theorem lU (k n:Nat):ac (dy k n)=n % 4294967296 ^ k:=by
 induction k generalizing n with
 | zero=>simp [dy,ac,Nat.mod_one]
 | succ k ih =>
  rw [dy,ac,ih,Nat.pow_succ,Nat.mul_comm (4294967296 ^ k),Nat.mod_mul]
theorem zN {l:List Nat} (h:Lb l):dy l.length (ac l)=l:=by
 induction l with
 | nil=>rfl
 | cons x l ih =>
  obtain ⟨h1,h2⟩:=fU.1 h
  simp only [List.length_cons,dy,ac]
  rw [show (x+4294967296*ac l) % 4294967296=x from by omega,show (x+4294967296*ac l) / 4294967296=ac l from by omega,ih h2]
theorem Mf (n:Nat):ac (List.replicate n 0)=0:=by
 induction n with
 | zero=>rfl
 | succ n ih=>simp [List.replicate_succ,ac,ih]
def iN (m:List Nat):Nat→Nat
 | 0=>0
 | n+1=>if m.getD n 0=0 then iN m n else n+1
theorem tD (m:List Nat):∀ n,iN m n≤n
 | 0=>Nat.le_refl _
 | n+1=>by
  unfold iN
  have:=tD m n
  split <;> omega
theorem UC (m:List Nat):∀ n,iN m n=0∨m.getD (iN m n - 1) 0 ≠ 0
 | 0=>.inl rfl
 | n+1=>by
  unfold iN
  split
  ·exact UC m n
  ·rename_i h
   exact .inr h
theorem PQ (m:List Nat):∀ n i,iN m n≤i→i < n→m.getD i 0=0
 | 0,i,_,h=>by omega
 | n+1,i,h1,h2=>by
  unfold iN at h1
  split at h1
  ·rename_i h
   by_cases e:i=n
   ·rw [e]; exact h
   ·exact PQ m n i h1 (by omega)
  ·omega
def s9 (m:List Nat):Prop:=m=[]∨m.getD (m.length - 1) 0 ≠ 0
theorem sA (x:Nat) (l:List Nat) (i:Nat):(x::l).getD (i+1) 0=l.getD i 0:=by simp [List.getD_eq_getElem?_getD]
theorem HD {x:Nat} {l:List Nat} (h:s9 (x::l)):s9 l:=by
 rcases h with h | h
 ·cases h
 ·cases l with
  | nil=>exact .inl rfl
  | cons y l =>
   refine .inr ?_
   simp only [List.length_cons,Nat.add_sub_cancel] at h ⊢
   rwa [sA] at h
theorem BU {l:List Nat} (h:s9 l) (hne:l ≠ []):ac l ≠ 0:=by
 induction l with
 | nil=>exact absurd rfl hne
 | cons x l ih =>
  cases l with
  | nil =>
   rcases h with h | h
   ·cases h
   ·simp at h
    simp [ac]
    exact h
  | cons y l =>
   have:=ih (HD h) (by simp)
   rw [ac]
   omega
theorem sB {l:List Nat} (h1:Lb l) (h2:s9 l):aq (ac l)=l:=by
 induction l with
 | nil=>exact eE
 | cons x l ih =>
  obtain ⟨h3,h4⟩:=fU.1 h1
  rw [mE (BU h2 (by simp)),ac,show (x+4294967296*ac l) % 4294967296=x from by omega,show (x+4294967296*ac l) / 4294967296=ac l from by omega,ih h4 (HD h2)]
theorem BV (n:Nat):s9 (aq n):=by
 induction n using Nat.strongRecOn with
 | ind n ih =>
  by_cases h:n=0
  ·subst h; rw [eE]; exact .inl rfl
  ·rw [mE h]
   refine .inr ?_
   rcases ih (n / 4294967296) (by omega) with h2 | h2
   ·have h3:=jG.1 h2
    rw [h2]
    simp
    omega
   ·cases hq:aq (n / 4294967296) with
    | nil =>
     have h3:=jG.1 hq
     simp
     omega
    | cons y l =>
     rw [hq] at h2
     simp only [List.length_cons,Nat.add_sub_cancel] at h2 ⊢
     rw [sA]
     exact h2
theorem PR (m:List Nat):ac (m.take (iN m m.length))=ac m:=by
 have h:m=m.take (iN m m.length)++m.drop (iN m m.length):=(List.take_append_drop _ _).symm
 have hz:m.drop (iN m m.length)=List.replicate (m.length - iN m m.length) 0:=by
  rw [List.eq_replicate_iff]
  refine ⟨by simp,fun x hx=>?_⟩
  obtain ⟨i,hi⟩:=List.getElem?_of_mem hx
  rw [List.getElem?_drop] at hi
  have hl:=(List.getElem?_eq_some_iff.1 hi).1
  have:=PQ m m.length (iN m m.length+i) (by omega) hl
  rw [List.getD_eq_getElem?_getD,hi] at this
  exact this
 conv=>rhs; rw [h]
 rw [fO,hz,Mf]
 simp
theorem JF (m:List Nat):s9 (m.take (iN m m.length)):=by
 have hl:=tD m m.length
 rcases UC m m.length with h | h
 ·rw [h]; exact .inl rfl
 ·by_cases h0:iN m m.length=0
  ·rw [h0]; exact .inl rfl
  ·refine .inr ?_
   rw [List.length_take,Nat.min_eq_left hl,List.getD_eq_getElem?_getD,List.getElem?_take,if_pos (by omega),← List.getD_eq_getElem?_getD]
   exact h
theorem E7 {m:List Nat} (h:Lb m):m.take (iN m m.length)=aq (ac m):=by
 rw [← sB (qt h _) (JF m),PR]
theorem hG {n k:Nat} (h:n < 4294967296 ^ k):(aq n).length≤k:=by
 induction k generalizing n with
 | zero =>
  simp at h
  subst h
  rw [eE]
  simp
 | succ k ih =>
  by_cases h0:n=0
  ·subst h0; rw [eE]; simp
  ·rw [mE h0,List.length_cons]
   have:=ih (n:=n / 4294967296) (by
    rw [Nat.pow_succ] at h
    exact Nat.div_lt_of_lt_mul (by rw [Nat.mul_comm]; exact h))
   omega
theorem jH (n:Nat):n < 4294967296 ^ (aq n).length:=by
 have:=dI (bo n)
 rwa [aW] at this
theorem Zh {n:Nat} (h:n ≠ 0):4294967296 ^ ((aq n).length - 1)≤n:=by
 induction n using Nat.strongRecOn with
 | ind n ih =>
  rw [mE h,List.length_cons,Nat.add_sub_cancel]
  by_cases h0:n / 4294967296=0
  ·rw [h0,eE]; simp; omega
  ·have h1:=ih _ (by omega) h0
   have h2:(aq (n / 4294967296)).length ≠ 0:=by
    intro e
    exact h0 (jG.1 (List.length_eq_zero_iff.1 e))
   obtain ⟨k,hk⟩:∃ k,(aq (n / 4294967296)).length=k+1:=⟨_,(Nat.succ_pred_eq_of_pos (by omega)).symm⟩
   rw [hk] at h1 ⊢
   simp only [Nat.add_sub_cancel] at h1
   rw [Nat.pow_succ]
   omega
def tz (n:Nat):Nat:=if h:n=0 then 0 else if n % 2=1 then 0 else tz (n / 2)+1
termination_by n
decreasing_by omega
theorem yG {n:Nat} (h:n % 2=1):tz n=0:=by
 rw [tz,dif_neg (by omega),if_pos h]
theorem PS {n:Nat} (h:n ≠ 0):tz (2*n)=tz n+1:=by
 rw [tz,dif_neg (by omega),if_neg (by omega),Nat.mul_div_cancel_left n (by decide)]
theorem HE {n:Nat} (k:Nat) (h:n ≠ 0):tz (2 ^ k*n)=k+tz n:=by
 induction k with
 | zero=>rw [Nat.pow_zero,Nat.one_mul,Nat.zero_add]
 | succ k ih =>
  rw [Nat.pow_succ,Nat.mul_comm (2 ^ k) 2,Nat.mul_assoc,PS (Nat.mul_ne_zero (Nat.ne_of_gt (Nat.two_pow_pos k)) h),ih]
  omega
theorem sC {n:Nat} (h:n ≠ 0):n=2 ^ tz n*(n / 2 ^ tz n)∧n / 2 ^ tz n % 2=1:=by
 induction n using Nat.strongRecOn with
 | ind n ih =>
  by_cases h1:n % 2=1
  ·rw [yG h1,Nat.pow_zero,Nat.div_one,Nat.one_mul]
   exact ⟨rfl,h1⟩
  ·have hn:n=2*(n / 2):=by omega
   have h2:n / 2 ≠ 0:=by omega
   obtain ⟨e1,e2⟩:=ih (n / 2) (by omega) h2
   have e3:tz n=tz (n / 2)+1:=by
    conv=>lhs; rw [hn]
    exact PS h2
   have e4:n / 2 ^ (tz (n / 2)+1)=n / 2 / 2 ^ tz (n / 2):=by rw [Nat.pow_succ,Nat.mul_comm,Nat.div_div_eq_div_mul]
   rw [e3,e4]
   refine ⟨?_,e2⟩
   rw [Nat.pow_succ,Nat.mul_comm (2 ^ tz (n / 2)) 2,Nat.mul_assoc,← e1]
   exact hn
theorem aiz {x k:Nat} (y:Nat) (h:x ≠ 0) (hx:x < 2 ^ k):tz (x+2 ^ k*y)=tz x:=by
 obtain ⟨e1,e2⟩:=sC h
 generalize x / 2 ^ tz x=q at e1 e2
 have hle:2 ^ tz x≤x:=by
  conv=>rhs; rw [e1]
  exact Nat.le_mul_of_pos_right _ (by omega)
 have hk:tz x < k:=(Nat.pow_lt_pow_iff_right (by decide:1 < 2)).1 (Nat.lt_of_le_of_lt hle hx)
 generalize hz:2 ^ (k - tz x - 1)*y=z
 have e3:x+2 ^ k*y=2 ^ tz x*(q+2*z):=by
  have e4:2 ^ k=2 ^ tz x*(2*2 ^ (k - tz x - 1)):=by
   rw [← Nat.pow_succ',← Nat.pow_add]
   congr 1
   omega
  rw [Nat.mul_add,← e1,e4,← hz]
  simp only [Nat.mul_assoc]
 have e5:(q+2*z) % 2=1:=by omega
 rw [e3,HE _ (by omega),yG e5,Nat.add_zero]
theorem Oz {x k:Nat} (h:x ≠ 0) (hx:x < 2 ^ k):tz x < k:=by
 obtain ⟨e1,e2⟩:=sC h
 generalize x / 2 ^ tz x=q at e1 e2
 have hle:2 ^ tz x≤x:=by
  conv=>rhs; rw [e1]
  exact Nat.le_mul_of_pos_right _ (by omega)
 exact (Nat.pow_lt_pow_iff_right (by decide:1 < 2)).1 (Nat.lt_of_le_of_lt hle hx)
def Mg:Nat→Nat→Nat
 | 0,_=>0
 | k+1,n=>if n % 2=1 then 0 else Mg k (n / 2)+1
theorem aiA:∀ (k x:Nat),x ≠ 0→x < 2 ^ k→Mg k x=tz x:=by
 intro k
 induction k with
 | zero=>intro x h0 h1; omega
 | succ k ih =>
  intro x h0 h1
  unfold Mg
  by_cases h:x % 2=1
  ·rw [if_pos h,yG h]
  ·rw [if_neg h,ih (x / 2) (by omega) (by rw [Nat.pow_succ] at h1; omega)]
   have:=PS (n:=x / 2) (by omega)
   rw [show 2*(x / 2)=x by omega] at this
   exact this.symm
def tzF (zas:List AV) (hs:List Ob):Option (AV × List Ob):=match zas with
 | [.v (.int .u32 n)]=>if 0 < n∧n < 4294967296∧hs=[] then some (.v (.int .i64 (Mg 32 n.toNat:Nat)),[]) else none
 | _=>none
def UD (k:Nat) (zas:List AV) (hs:List Ob):Option (AV × List Ob):=match zas,hs with
 | [.sl k0 (_::_),.rsl 1000 none k1 _ _],[.ar k2 rows]=>if k0=k∧k1=k∧k2=k then some (B false,[.ar k2 rows]) else none
 | _,_=>none
def Zi (zas:List AV) (hs:List Ob):Option (AV × List Ob):=match zas,hs with
 | [.sl 1 []],[]=>some (.sl 1 [],[])
 | [.sl 1 (r::rs)],[]=>if (rs.length+1)*8≤140737488355328 then some (.osl 1 (r::rs),[]) else none
 | _,_=>none
def PT (k bytes:Nat) (zas:List AV) (hs:List Ob):Option (AV × List Ob):=match zas,hs with
 | [.emp,.v (.int .i64 0),.sl k0 [r]],[]=>if k0=k then some (.osl k [r],[]) else none
 | [.rsl 1000 none k1 0 n,.v (.int .i64 i),.sl k0 [r]],[.ar k2 rows] =>
  if k0=k∧k1=k∧k2=k∧n=rows.length∧0≤i∧i≤n∧(n+1)*bytes≤140737488355328 then some (.osl k (rows.take i.toNat++r::rows.drop i.toNat),[.dead]) else none
 | _,_=>none
def OA:List (Nat × (List AV→List Ob→Option (AV × List Ob))):=[(F.bits_TrailingZeros32,tzF),(F.slices_overlaps_api_Term_,UD 4)]
def aiB:List (Nat × (List AV→List Ob→Option (AV × List Ob))):=(F.slices_Clone_int_int_,Zi)::(F.slices_Insert_api_Term_api_Term_,PT 4 64)::OA
end Go.Ab
