/- Own lists in the executor's words; insolvencylaw0: Amounts, Late. -/
import Derived.Test.YtiaefgffeekfkaaGreatDoorZ22
import Derived.Test.YtiaefgffeekfkaaGreatDoorZ26
import Derived.Test.YtiaefgffeekfkaaGreatDoorZ27
import Derived.Test.YtiaefgffeekfkaaGreatDoorZ28
import Derived.Test.YtiaefgffeekfkaaGreatDoorZ29

namespace Go.Proofs.Xe
open Go.Proofs
def a_waterfall_result_share : AF := ⟨33,(.seq (.ops [⟨d 4,none,.box (.t 1)⟩,⟨d 5,none,.box (.t 2)⟩]) (.seq (.ops [⟨d 11,none,.load 3 true (.t 5)⟩,⟨d 12,none,.faddr 1 (.t 4)⟩,⟨d 13,none,.load 3 true (.t 12)⟩,
 ⟨d 14,none,.call (kf 248) [(.t 11),(.t 13)]⟩,⟨d 10,none,.mov (.t 14)⟩,⟨d 15,none,.ext 0 (.t 10)⟩,⟨d 16,none,.ext 1 (.t 10)⟩,⟨d 6,none,.alloc [.bool false,s0,s0]⟩,
 ⟨none,none,.store 3 (.t 6) (.t 15)⟩,⟨d 7,none,.mov (.t 16)⟩]) (.seq (.ops [⟨d 17,none,.faddr 0 (.t 4)⟩,⟨d 18,none,.load 1 false (.t 17)⟩,⟨d 19,none,.len (.t 18)⟩,
 ⟨d 20,none,.mov (ki 0)⟩]) (.block 0 (.loop (.seq (.ops [⟨d 21,none,.bin .lss (.t 20) (.t 19)⟩]) (.seq (.cond (.t 21) .skip (.exit 0)) (.seq (.block 1 (.seq (.ops [⟨d 22,none,.iaddr 4 (.t 18) (.t 20)⟩,
 ⟨d 23,none,.load 4 true (.t 22)⟩,⟨d 9,none,.alloc [i0,.bool false,s0,s0]⟩,⟨none,none,.store 4 (.t 9) (.t 23)⟩]) (.drawn (.act [⟨0,[],[],⟨d 24,none,.mov (.t 0)⟩⟩,⟨1,[],[],
 ⟨d 25,none,.faddr 0 (.t 9)⟩⟩,⟨2,[1],[],⟨d 26,none,.load 1 false (.t 25)⟩⟩,⟨3,[],[],⟨d 27,none,.faddr 1 (.t 9)⟩⟩,⟨4,[3],[],⟨d 28,none,.load 3 true (.t 27)⟩⟩,⟨5,[],[],
 ⟨d 29,none,.load 3 true (.t 6)⟩⟩] ⟨6,[4,5],[],⟨d 30,none,.call (kf 250) [(.t 28),(.t 29)]⟩⟩ (.act [] ⟨7,[0,2,6],[],
 ⟨d 31,none,.call (kf 273) [(.t 24),(.t 26),(.t 30)]⟩⟩ (.fin []))) [[],[],[1],[],[3],[],[5,4,3],[6,5,4,3,2,1,0]] [24,25,26,27,28,29,30,31]))) (.ops [⟨d 32,none,.bin .add (.t 20) (ki 1)⟩,
 ⟨d 20,none,.mov (.t 32)⟩]))))))))),[]⟩
def a_waterfall_Layout_rates : AF := ⟨21,(.seq (.ops [⟨d 2,none,.box (.t 0)⟩,⟨d 3,none,.box (.t 1)⟩,⟨d 4,none,.mov (.k (.c (.nils)))⟩]) (.seq (.ops [⟨d 6,none,.faddr 0 (.t 2)⟩,⟨d 7,none,.load 1 false (.t 6)⟩,
 ⟨d 8,none,.mksl 40 [.bool false,s0,s0] (.t 7) (.t 7)⟩,⟨d 9,none,.build [.nils,.bool false,s0,s0] [(0,1,(.t 8))]⟩,⟨d 10,none,.box (.t 9)⟩,
 ⟨d 5,none,.mov (.t 10)⟩]) (.seq (.drawn (.act [⟨0,[],[],⟨d 11,none,.faddr 1 (.t 2)⟩⟩,⟨1,[0],[],⟨d 12,none,.load 1 false (.t 11)⟩⟩,⟨2,[],[],⟨d 13,none,.load 3 true (.t 3)⟩⟩,
 ⟨4,[],[],⟨d 15,none,.mov (.t 5)⟩⟩] ⟨3,[],[],⟨d 14,none,.call (kf 198) [(ki 1)]⟩⟩ (.act [] ⟨5,[1,2,3,4],[],
 ⟨d 16,none,.call (kf 277) [(.t 12),(.t 13),(.t 14),(.t 15)]⟩⟩ (.fin []))) [[],[0],[],[],[],[3,4,2,1,0]] [11,12,13,14,15,16]) (.seq (.ops [⟨d 17,none,.mov (.t 5)⟩,
 ⟨d 18,none,.nchk (.t 17)⟩,⟨d 19,none,.faddr 0 (.t 18)⟩,⟨d 20,none,.load 1 false (.t 19)⟩,⟨d 4,none,.mov (.t 20)⟩]) .ret)))),[(4,none)]⟩
def a_waterfall_ladder_slope : AF := ⟨27,(.seq (.ops [⟨d 5,none,.box (.t 1)⟩,⟨d 6,none,.box (.t 2)⟩]) (.seq (.ops [⟨d 11,none,.mov (.t 0)⟩,⟨d 12,none,.load 3 true (.t 5)⟩,⟨d 13,none,.call (kf 272) [(.t 11),(.t 12)]⟩,
 ⟨d 10,none,.mov (.t 13)⟩,⟨d 14,none,.ext 0 (.t 10)⟩,⟨d 15,none,.ext 1 (.t 10)⟩,⟨d 9,none,.alloc [.bool false,s0,s0]⟩,⟨d 8,none,.mov (.t 14)⟩,
 ⟨none,none,.store 3 (.t 9) (.t 15)⟩]) (.seq (.ops [⟨d 16,none,.mov (.t 8)⟩,⟨d 17,none,.mov (.t 0)⟩,⟨d 18,none,.len (.t 17)⟩,
 ⟨d 19,none,.bin .lss (.t 16) (.t 18)⟩]) (.cond (.t 19) (.drawn (.act [⟨0,[],[],⟨d 20,none,.mov (.t 3)⟩⟩,⟨1,[],[],⟨d 21,none,.mov (.t 0)⟩⟩,⟨2,[],[],⟨d 22,none,.mov (.t 8)⟩⟩,
 ⟨3,[1,2],[],⟨d 23,none,.iaddr 4 (.t 21) (.t 22)⟩⟩,⟨4,[3],[],⟨d 24,none,.load 4 true (.t 23)⟩⟩,⟨5,[],[],⟨d 25,none,.load 3 true (.t 6)⟩⟩] ⟨6,[0,4,5],[],
 ⟨d 26,none,.call (kf 274) [(.t 20),(.t 24),(.t 25)]⟩⟩ (.fin [])) [[],[],[],[2,1],[3,2,1],[],[5,4,3,2,1,0]] [20,21,22,23,24,25,26]) .skip)))),[]⟩
def a_slices_IndexFunc__int_int : AF := ⟨19,(.seq (.ops [⟨d 4,none,.mov (ki 0)⟩]) (.seq (.seq (.ops [⟨d 6,none,.mov (.t 0)⟩,⟨d 7,none,.len (.t 6)⟩,
 ⟨d 8,none,.mov (ki 0)⟩]) (.block 0 (.loop (.seq (.ops [⟨d 9,none,.bin .lss (.t 8) (.t 7)⟩]) (.seq (.cond (.t 9) .skip (.exit 0)) (.seq (.block 1 (.seq (.ops [⟨d 10,none,.mov (.t 8)⟩,
 ⟨d 5,none,.mov (.t 10)⟩]) (.seq (.ops [⟨d 11,none,.mov (.t 1)⟩,⟨d 12,none,.mov (.t 0)⟩,⟨d 13,none,.mov (.t 5)⟩,⟨d 14,none,.iaddr 1 (.t 12) (.t 13)⟩,
 ⟨d 15,none,.load 1 false (.t 14)⟩,⟨d 16,none,.call (.t 11) [(.t 15)]⟩]) (.cond (.t 16) (.seq (.ops [⟨d 17,none,.mov (.t 5)⟩,
 ⟨d 4,none,.mov (.t 17)⟩]) .ret) .skip)))) (.ops [⟨d 18,none,.bin .add (.t 8) (ki 1)⟩,
 ⟨d 8,none,.mov (.t 18)⟩]))))))) (.seq (.ops [⟨d 4,none,.mov (.k (.c (.int .i64 (.negSucc 0))))⟩]) .ret))),[(4,none)]⟩
def a_linear_square : AF := ⟨16,(.seq (.ops [⟨d 2,none,.mov (ki 0)⟩]) (.seq (.seq (.ops [⟨d 4,none,.mov (.t 0)⟩,⟨d 5,none,.call (kf 297) [(.t 4)]⟩,⟨d 3,none,.mov (.t 5)⟩]) (.seq (.ops [⟨d 6,none,.mov (.t 3)⟩,
 ⟨d 7,none,.bin .neq (.t 6) (ki 0)⟩]) (.cond (.t 7) (.seq (.ops [⟨d 8,none,.mov (.t 3)⟩,⟨d 2,none,.mov (.t 8)⟩]) .ret) .skip))) (.seq (.seq (.ops [⟨d 9,none,.mov (.t 0)⟩,
 ⟨d 10,none,.len (.t 9)⟩,⟨d 11,none,.mov (.t 0)⟩,⟨d 12,none,.iaddr 1 (.t 11) (ki 0)⟩,⟨d 13,none,.load 1 false (.t 12)⟩,⟨d 14,none,.len (.t 13)⟩,
 ⟨d 15,none,.bin .neq (.t 10) (.t 14)⟩]) (.cond (.t 15) (.seq (.ops [⟨d 2,none,.mov (ki 4)⟩]) .ret) .skip)) (.seq (.ops [⟨d 2,none,.mov (ki 0)⟩]) .ret)))),[(2,none)]⟩
def a_linear_clean : AF := ⟨41,(.seq (.ops [⟨d 2,none,.mov (.k (.c (.nils)))⟩]) (.seq (.ops [⟨d 8,none,.mov (.t 0)⟩,⟨d 9,none,.len (.t 8)⟩,⟨d 10,none,.mksl 24 [.nils] (.t 9) (.t 9)⟩,
 ⟨d 3,none,.mov (.t 10)⟩]) (.seq (.seq (.ops [⟨d 11,none,.mov (.t 0)⟩,⟨d 12,none,.len (.t 11)⟩,
 ⟨d 13,none,.mov (ki 0)⟩]) (.block 0 (.loop (.seq (.ops [⟨d 14,none,.bin .lss (.t 13) (.t 12)⟩]) (.seq (.cond (.t 14) .skip (.exit 0)) (.seq (.block 1 (.seq (.ops [⟨d 15,none,.mov (.t 13)⟩,
 ⟨d 16,none,.iaddr 1 (.t 11) (.t 13)⟩,⟨d 17,none,.load 1 false (.t 16)⟩,⟨d 4,none,.mov (.t 15)⟩,⟨d 5,none,.mov (.t 17)⟩]) (.seq (.ops [⟨d 18,none,.mov (.t 5)⟩,
 ⟨d 19,none,.len (.t 18)⟩,
 ⟨d 20,none,.mov (ki 0)⟩]) (.block 2 (.loop (.seq (.ops [⟨d 21,none,.bin .lss (.t 20) (.t 19)⟩]) (.seq (.cond (.t 21) .skip (.exit 2)) (.seq (.block 3 (.seq (.ops [⟨d 22,none,.iaddr 3 (.t 18) (.t 20)⟩,
 ⟨d 23,none,.load 3 true (.t 22)⟩,⟨d 7,none,.alloc [.bool false,s0,s0]⟩,⟨none,none,.store 3 (.t 7) (.t 23)⟩]) (.seq (.seq (.ops [⟨d 24,none,.load 3 true (.t 7)⟩,
 ⟨d 25,none,.call (kf 116) [(.t 24)]⟩,⟨d 26,none,.not (.t 25)⟩]) (.cond (.t 26) (.ops [⟨d 27,none,.build [.bool false,s0,s0] []⟩,
 ⟨none,none,.store 3 (.t 7) (.t 27)⟩]) .skip)) (.drawn (.act [⟨0,[],[],⟨d 28,none,.mov (.t 3)⟩⟩,⟨1,[],[],⟨d 29,none,.mov (.t 4)⟩⟩,⟨2,[],[],⟨d 30,none,.mov (.t 3)⟩⟩,⟨3,[],[],
 ⟨d 31,none,.mov (.t 4)⟩⟩,⟨4,[2,3],[],⟨d 32,none,.iaddr 1 (.t 30) (.t 31)⟩⟩,⟨5,[4],[],⟨d 33,none,.load 1 false (.t 32)⟩⟩,⟨6,[],[],⟨d 34,none,.load 3 true (.t 7)⟩⟩,⟨7,[6],[],
 ⟨d 35,none,.bsl 3 1 [.bool false,s0,s0] [(0,3,(.t 34))]⟩⟩] ⟨8,[5,7],[],⟨d 36,none,.app 71 3 40 (.t 33) (.t 35)⟩⟩ (.act [⟨9,[0,1],[],
 ⟨d 37,none,.iaddr 1 (.t 28) (.t 29)⟩⟩] ⟨10,[9,8],[],
 ⟨none,none,.store 1 (.t 37) (.t 36)⟩⟩ (.fin []))) [[],[],[],[],[3,2],[4,3,2],[],[6],[7,6,5,4,3,2],[8,7,6,5,4,3,2,1,0],[8,7,6,5,4,3,2,1,0,9]] [28,29,30,31,32,33,34,35,36,37])))) (.ops [⟨d 38,none,.bin .add (.t 20) (ki 1)⟩,
 ⟨d 20,none,.mov (.t 38)⟩]))))))))) (.ops [⟨d 39,none,.bin .add (.t 13) (ki 1)⟩,⟨d 13,none,.mov (.t 39)⟩]))))))) (.seq (.ops [⟨d 40,none,.mov (.t 3)⟩,
 ⟨d 2,none,.mov (.t 40)⟩]) .ret)))),[(2,none)]⟩
def a_linear_integers : AF := ⟨68,(.seq (.ops [⟨d 2,none,.mov (.k (.c (.nils)))⟩]) (.seq (.ops [⟨d 16,none,.call (kf 275) [(.k (.c (.int .u64 (.ofNat 1))))]⟩,
 ⟨d 3,none,.mov (.t 16)⟩]) (.seq (.seq (.ops [⟨d 17,none,.mov (.t 0)⟩,⟨d 18,none,.len (.t 17)⟩,
 ⟨d 19,none,.mov (ki 0)⟩]) (.block 0 (.loop (.seq (.ops [⟨d 20,none,.bin .lss (.t 19) (.t 18)⟩]) (.seq (.cond (.t 20) .skip (.exit 0)) (.seq (.block 1 (.seq (.ops [⟨d 21,none,.iaddr 3 (.t 17) (.t 19)⟩,
 ⟨d 22,none,.load 3 true (.t 21)⟩,⟨d 5,none,.alloc [.bool false,s0,s0]⟩,⟨none,none,.store 3 (.t 5) (.t 22)⟩]) (.seq (.ops [⟨d 23,none,.load 3 true (.t 5)⟩,
 ⟨d 24,none,.call (kf 299) [(.t 23)]⟩,⟨d 6,none,.mov (.t 24)⟩]) (.seq (.ops [⟨d 26,none,.mov (.t 6)⟩,⟨d 27,none,.mov (.t 3)⟩,⟨d 28,none,.mov (.t 6)⟩,
 ⟨d 29,none,.call (kf 172) [(.t 27),(.t 28)]⟩,⟨d 30,none,.call (kf 215) [(.t 26),(.t 29)]⟩,⟨d 25,none,.mov (.t 30)⟩,⟨d 31,none,.ext 0 (.t 25)⟩,⟨d 32,none,.ext 1 (.t 25)⟩,
 ⟨d 33,none,.ext 2 (.t 25)⟩,⟨d 7,none,.mov (.t 31)⟩,⟨d 8,none,.mov (.t 32)⟩,⟨d 9,none,.mov (.t 33)⟩]) (.ops [⟨d 34,none,.mov (.t 3)⟩,⟨d 35,none,.mov (.t 7)⟩,
 ⟨d 36,none,.call (kf 70) [(.t 34),(.t 35)]⟩,⟨d 3,none,.mov (.t 36)⟩]))))) (.ops [⟨d 37,none,.bin .add (.t 19) (ki 1)⟩,
 ⟨d 19,none,.mov (.t 37)⟩]))))))) (.seq (.ops [⟨d 38,none,.mov (.t 0)⟩,⟨d 39,none,.len (.t 38)⟩,⟨d 40,none,.mksl 24 [.bool false,s0] (.t 39) (.t 39)⟩,
 ⟨d 10,none,.mov (.t 40)⟩]) (.seq (.seq (.ops [⟨d 41,none,.mov (.t 0)⟩,⟨d 42,none,.len (.t 41)⟩,
 ⟨d 43,none,.mov (ki 0)⟩]) (.block 2 (.loop (.seq (.ops [⟨d 44,none,.bin .lss (.t 43) (.t 42)⟩]) (.seq (.cond (.t 44) .skip (.exit 2)) (.seq (.block 3 (.seq (.ops [⟨d 45,none,.mov (.t 43)⟩,
 ⟨d 46,none,.iaddr 3 (.t 41) (.t 43)⟩,⟨d 47,none,.load 3 true (.t 46)⟩,⟨d 12,none,.alloc [.bool false,s0,s0]⟩,⟨d 11,none,.mov (.t 45)⟩,
 ⟨none,none,.store 3 (.t 12) (.t 47)⟩]) (.seq (.ops [⟨d 49,none,.mov (.t 3)⟩,⟨d 50,none,.load 3 true (.t 12)⟩,⟨d 51,none,.call (kf 299) [(.t 50)]⟩,
 ⟨d 52,none,.call (kf 215) [(.t 49),(.t 51)]⟩,⟨d 48,none,.mov (.t 52)⟩,⟨d 53,none,.ext 0 (.t 48)⟩,⟨d 54,none,.ext 1 (.t 48)⟩,⟨d 55,none,.ext 2 (.t 48)⟩,⟨d 13,none,.mov (.t 53)⟩,
 ⟨d 14,none,.mov (.t 54)⟩,⟨d 15,none,.mov (.t 55)⟩]) (.drawn (.act [⟨0,[],[],⟨d 56,none,.mov (.t 10)⟩⟩,⟨1,[],[],⟨d 57,none,.mov (.t 11)⟩⟩,⟨2,[],[],⟨d 58,none,.faddr 0 (.t 12)⟩⟩,
 ⟨3,[2],[],⟨d 59,none,.load 1 false (.t 58)⟩⟩,⟨4,[],[],⟨d 60,none,.faddr 1 (.t 12)⟩⟩,⟨5,[4],[],⟨d 61,none,.load 1 false (.t 60)⟩⟩,⟨6,[],[],⟨d 62,none,.mov (.t 13)⟩⟩] ⟨7,[5,6],[],
 ⟨d 63,none,.call (kf 70) [(.t 61),(.t 62)]⟩⟩ (.act [⟨8,[3,7],[],⟨d 64,none,.build [.bool false,s0] [(0,1,(.t 59)),(1,1,(.t 63))]⟩⟩,⟨9,[0,1],[],
 ⟨d 65,none,.iaddr 2 (.t 56) (.t 57)⟩⟩] ⟨10,[9,8],[],
 ⟨none,none,.store 2 (.t 65) (.t 64)⟩⟩ (.fin []))) [[],[],[],[2],[],[4],[],[6,5,4],[7,6,5,4,3,2],[8,7,6,5,4,3,2,1,0],[8,7,6,5,4,3,2,1,0,9]] [56,57,58,59,60,61,62,63,64,65])))) (.ops [⟨d 66,none,.bin .add (.t 43) (ki 1)⟩,
 ⟨d 43,none,.mov (.t 66)⟩]))))))) (.seq (.ops [⟨d 67,none,.mov (.t 10)⟩,⟨d 2,none,.mov (.t 67)⟩]) .ret)))))),[(2,none)]⟩
def a_slices_IndexFunc__linear_integer_linear_integer : AF := ⟨19,(.seq (.ops [⟨d 4,none,.mov (ki 0)⟩]) (.seq (.seq (.ops [⟨d 6,none,.mov (.t 0)⟩,⟨d 7,none,.len (.t 6)⟩,
 ⟨d 8,none,.mov (ki 0)⟩]) (.block 0 (.loop (.seq (.ops [⟨d 9,none,.bin .lss (.t 8) (.t 7)⟩]) (.seq (.cond (.t 9) .skip (.exit 0)) (.seq (.block 1 (.seq (.ops [⟨d 10,none,.mov (.t 8)⟩,
 ⟨d 5,none,.mov (.t 10)⟩]) (.seq (.ops [⟨d 11,none,.mov (.t 1)⟩,⟨d 12,none,.mov (.t 0)⟩,⟨d 13,none,.mov (.t 5)⟩,⟨d 14,none,.iaddr 1 (.t 12) (.t 13)⟩,
 ⟨d 15,none,.load 1 false (.t 14)⟩,⟨d 16,none,.call (.t 11) [(.t 15)]⟩]) (.cond (.t 16) (.seq (.ops [⟨d 17,none,.mov (.t 5)⟩,
 ⟨d 4,none,.mov (.t 17)⟩]) .ret) .skip)))) (.ops [⟨d 18,none,.bin .add (.t 8) (ki 1)⟩,
 ⟨d 8,none,.mov (.t 18)⟩]))))))) (.seq (.ops [⟨d 4,none,.mov (.k (.c (.int .i64 (.negSucc 0))))⟩]) .ret))),[(4,none)]⟩
def a_linear_Solve_1 : AF := ⟨10,(.seq (.ops [⟨d 3,none,.mov (kb false)⟩]) (.seq (.ops [⟨d 4,none,.mov (.t 0)⟩,⟨d 5,none,.load 1 false (.t 1)⟩,⟨d 6,none,.iaddr 2 (.t 4) (.t 5)⟩,⟨d 7,none,.faddr 1 (.t 6)⟩,
 ⟨d 8,none,.load 1 false (.t 7)⟩,⟨d 9,none,.bin .neq (.t 8) (.k (.c (s0)))⟩,⟨d 3,none,.mov (.t 9)⟩]) .ret)),[(3,none)]⟩
def a_linear_eliminate : AF := ⟨67,(.seq (.ops [⟨d 5,none,.box (.t 2)⟩]) (.seq (.ops [⟨d 11,none,.mov (.t 0)⟩,⟨d 12,none,.mov (.t 1)⟩,⟨d 13,none,.iaddr 1 (.t 11) (.t 12)⟩,⟨d 14,none,.load 1 false (.t 13)⟩,
 ⟨d 15,none,.mov (.t 1)⟩,⟨d 16,none,.iaddr 2 (.t 14) (.t 15)⟩,⟨d 17,none,.load 2 true (.t 16)⟩,⟨d 6,none,.alloc [.bool false,s0]⟩,
 ⟨none,none,.store 2 (.t 6) (.t 17)⟩]) (.seq (.ops [⟨d 18,none,.mov (.t 0)⟩,⟨d 19,none,.len (.t 18)⟩,
 ⟨d 20,none,.mov (ki 0)⟩]) (.block 0 (.loop (.seq (.ops [⟨d 21,none,.bin .lss (.t 20) (.t 19)⟩]) (.seq (.cond (.t 21) .skip (.exit 0)) (.seq (.block 1 (.seq (.ops [⟨d 22,none,.mov (.t 20)⟩,
 ⟨d 23,none,.iaddr 1 (.t 18) (.t 20)⟩,⟨d 24,none,.load 1 false (.t 23)⟩,⟨d 7,none,.mov (.t 22)⟩,⟨d 8,none,.mov (.t 24)⟩]) (.seq (.seq (.ops [⟨d 25,none,.mov (.t 7)⟩,
 ⟨d 26,none,.mov (.t 1)⟩,⟨d 27,none,.bin .eql (.t 25) (.t 26)⟩]) (.cond (.t 27) (.exit 1) .skip)) (.seq (.ops [⟨d 28,none,.mov (.t 8)⟩,⟨d 29,none,.mov (.t 1)⟩,
 ⟨d 30,none,.iaddr 2 (.t 28) (.t 29)⟩,⟨d 31,none,.load 2 true (.t 30)⟩,⟨d 9,none,.alloc [.bool false,s0]⟩,
 ⟨none,none,.store 2 (.t 9) (.t 31)⟩]) (.seq (.seq (.ops [⟨d 32,none,.mov (.t 8)⟩,⟨d 33,none,.len (.t 32)⟩,
 ⟨d 34,none,.mov (ki 0)⟩]) (.block 2 (.loop (.seq (.ops [⟨d 35,none,.bin .lss (.t 34) (.t 33)⟩]) (.seq (.cond (.t 35) .skip (.exit 2)) (.seq (.block 3 (.seq (.ops [⟨d 36,none,.mov (.t 34)⟩,
 ⟨d 10,none,.mov (.t 36)⟩]) (.seq (.ops [⟨d 37,none,.mov (.t 10)⟩,⟨d 38,none,.mov (.t 1)⟩,⟨d 39,none,.bin .neq (.t 37) (.t 38)⟩]) (.cond (.t 39) (.drawn (.act [⟨0,[],[],
 ⟨d 40,none,.mov (.t 8)⟩⟩,⟨1,[],[],⟨d 41,none,.mov (.t 10)⟩⟩,⟨2,[],[],⟨d 42,none,.load 2 true (.t 6)⟩⟩,⟨3,[],[],⟨d 43,none,.mov (.t 8)⟩⟩,⟨4,[],[],⟨d 44,none,.mov (.t 10)⟩⟩,
 ⟨5,[3,4],[],⟨d 45,none,.iaddr 2 (.t 43) (.t 44)⟩⟩,⟨6,[5],[],⟨d 46,none,.load 2 true (.t 45)⟩⟩,⟨8,[],[],⟨d 48,none,.load 2 true (.t 9)⟩⟩,⟨9,[],[],⟨d 49,none,.mov (.t 0)⟩⟩,
 ⟨10,[],[],⟨d 50,none,.mov (.t 1)⟩⟩,⟨11,[9,10],[],⟨d 51,none,.iaddr 1 (.t 49) (.t 50)⟩⟩,⟨12,[11],[],⟨d 52,none,.load 1 false (.t 51)⟩⟩,⟨13,[],[],⟨d 53,none,.mov (.t 10)⟩⟩,
 ⟨14,[12,13],[],⟨d 54,none,.iaddr 2 (.t 52) (.t 53)⟩⟩,⟨15,[14],[],⟨d 55,none,.load 2 true (.t 54)⟩⟩,⟨18,[],[],⟨d 58,none,.load 2 true (.t 5)⟩⟩] ⟨7,[2,6],[],
 ⟨d 47,none,.call (kf 300) [(.t 42),(.t 46)]⟩⟩ (.act [] ⟨16,[8,15],[],⟨d 56,none,.call (kf 300) [(.t 48),(.t 55)]⟩⟩ (.act [] ⟨17,[7,16],[],
 ⟨d 57,none,.call (kf 301) [(.t 47),(.t 56)]⟩⟩ (.act [] ⟨19,[17,18],[],⟨d 59,none,.call (kf 302) [(.t 57),(.t 58)]⟩⟩ (.act [⟨20,[0,1],[],
 ⟨d 60,none,.iaddr 2 (.t 40) (.t 41)⟩⟩] ⟨21,[20,19],[],
 ⟨none,none,.store 2 (.t 60) (.t 59)⟩⟩ (.fin [])))))) [[],[],[],[],[],[4,3],[5,4,3],[6,5,4,3,2],[],[],[],[10,9],[11,10,9],[],[13,12,11,10,9],[14,13,12,11,10,9],[7,6,5,4,3,2,15,14,13,12,11,10,9,8],[16,7,6,5,4,3,2,15,14,13,12,11,10,9,8],[],[17,16,7,6,5,4,3,2,15,14,13,12,11,10,9,8,18],[19,17,16,7,6,5,4,3,2,15,14,13,12,11,10,9,8,18,1,0],[19,17,16,7,6,5,4,3,2,15,14,13,12,11,10,9,8,18,1,0,20]] [40,41,42,43,44,45,46,47,48,49,50,51,52,53,54,55,56,57,58,59,60]) .skip)))) (.ops [⟨d 61,none,.bin .add (.t 34) (ki 1)⟩,
 ⟨d 34,none,.mov (.t 61)⟩]))))))) (.ops [⟨d 62,none,.mov (.t 8)⟩,⟨d 63,none,.mov (.t 1)⟩,⟨d 64,none,.build [.bool false,s0] []⟩,⟨d 65,none,.iaddr 2 (.t 62) (.t 63)⟩,
 ⟨none,none,.store 2 (.t 65) (.t 64)⟩])))))) (.ops [⟨d 66,none,.bin .add (.t 20) (ki 1)⟩,⟨d 20,none,.mov (.t 66)⟩]))))))))),[]⟩
def a_waterfall_Layout_step : AF := ⟨69,(.seq (.ops [⟨d 2,none,.box (.t 0)⟩,⟨d 3,none,.box (.t 1)⟩,⟨d 4,none,.alloc [.bool false,s0,s0]⟩,⟨d 5,none,.mov (kb false)⟩]) (.seq (.ops [⟨d 18,none,.faddr 1 (.t 2)⟩,
 ⟨d 19,none,.load 1 false (.t 18)⟩,⟨d 20,none,.load 3 true (.t 3)⟩,⟨d 21,none,.call (kf 303) [(.t 19),(.t 20)]⟩,⟨d 17,none,.mov (.t 21)⟩,⟨d 22,none,.ext 0 (.t 17)⟩,
 ⟨d 23,none,.ext 1 (.t 17)⟩,⟨d 6,none,.alloc [.bool false,s0,s0]⟩,⟨none,none,.store 3 (.t 6) (.t 22)⟩,⟨d 7,none,.mov (.t 23)⟩]) (.seq (.seq (.ops [⟨d 24,none,.mov (.t 7)⟩,
 ⟨d 25,none,.not (.t 24)⟩]) (.cond (.t 25) (.seq (.ops [⟨d 26,none,.build [.bool false,s0,s0] []⟩,⟨none,none,.store 3 (.t 4) (.t 26)⟩,
 ⟨d 5,none,.mov (kb false)⟩]) .ret) .skip)) (.seq (.drawn (.act [⟨0,[],[],⟨d 27,none,.load 6 true (.t 2)⟩⟩,⟨1,[],[],⟨d 28,none,.load 3 true (.t 3)⟩⟩,⟨3,[],[],
 ⟨d 30,none,.load 6 true (.t 2)⟩⟩,⟨4,[],[],⟨d 31,none,.load 3 true (.t 3)⟩⟩] ⟨2,[0,1],[],⟨d 29,none,.call (kf 194) [(.t 27),(.t 28)]⟩⟩ (.act [] ⟨5,[3,4],[],
 ⟨d 32,none,.call (kf 276) [(.t 30),(.t 31)]⟩⟩ (.fin [⟨6,[2],[],⟨d 8,none,.mov (.t 29)⟩⟩,⟨7,[5],[],
 ⟨d 9,none,.mov (.t 32)⟩⟩]))) [[],[],[1,0],[],[],[2,1,0,4,3],[2,1,0,5,4,3],[6,2,1,0,5,4,3]] [27,28,29,30,31,32,8,9]) (.seq (.seq (.ops [⟨d 33,none,.faddr 2 (.t 2)⟩,
 ⟨d 34,none,.load 1 false (.t 33)⟩,⟨d 35,none,.len (.t 34)⟩,
 ⟨d 36,none,.mov (ki 0)⟩]) (.block 0 (.loop (.seq (.ops [⟨d 37,none,.bin .lss (.t 36) (.t 35)⟩]) (.seq (.cond (.t 37) .skip (.exit 0)) (.seq (.block 1 (.seq (.ops [⟨d 38,none,.iaddr 2 (.t 34) (.t 36)⟩,
 ⟨d 39,none,.load 2 true (.t 38)⟩,⟨d 11,none,.alloc [.nils,.nils]⟩,⟨none,none,.store 2 (.t 11) (.t 39)⟩]) (.seq (.ops [⟨d 40,none,.load 2 true (.t 11)⟩,⟨d 41,none,.mov (.t 9)⟩,
 ⟨d 42,none,.call (kf 229) [(.t 40),(.t 41)]⟩,⟨d 12,none,.alloc [.bool false,s0,s0]⟩,⟨none,none,.store 3 (.t 12) (.t 42)⟩]) (.seq (.drawn (.act [⟨0,[],[],
 ⟨d 44,none,.faddr 1 (.t 11)⟩⟩,⟨1,[0],[],⟨d 45,none,.load 1 false (.t 44)⟩⟩,⟨2,[],[],⟨d 46,none,.load 2 true (.t 11)⟩⟩,⟨3,[],[],⟨d 47,none,.mov (.t 8)⟩⟩,⟨9,[],[],
 ⟨d 13,none,.alloc [.bool false,s0,s0]⟩⟩] ⟨4,[2,3],[],⟨d 48,none,.call (kf 229) [(.t 46),(.t 47)]⟩⟩ (.act [] ⟨5,[1,4],[],
 ⟨d 49,none,.call (kf 303) [(.t 45),(.t 48)]⟩⟩ (.act [⟨6,[5],[],⟨d 43,none,.mov (.t 49)⟩⟩,⟨7,[6],[],⟨d 50,none,.ext 0 (.t 43)⟩⟩,⟨8,[6],[],
 ⟨d 51,none,.ext 1 (.t 43)⟩⟩] ⟨10,[9,7],[],⟨none,none,.store 3 (.t 13) (.t 50)⟩⟩ (.fin [⟨11,[8],[],
 ⟨d 14,none,.mov (.t 51)⟩⟩])))) [[],[0],[],[],[3,2],[4,3,2,1,0],[5,4,3,2,1,0],[6,5,4,3,2,1,0],[6,5,4,3,2,1,0],[],[9,7,6,5,4,3,2,1,0],[10,9,7,6,5,4,3,2,1,0,8]] [44,45,46,47,48,49,43,50,51,13,14]) (.seq (.ops [⟨d 52,none,.mov (.t 14)⟩,
 ⟨d 53,none,.mov (.t 52)⟩,⟨(some 54),(some (53,true)),.load 3 true (.t 12)⟩,⟨(some 55),(some (53,true)),.call (kf 127) [(.t 54)]⟩,
 ⟨(some 56),(some (53,true)),.bin .gtr (.t 55) (ki 0)⟩,⟨d 57,none,.pick (.t 53) (.t 56) (kb false)⟩]) (.cond (.t 57) (.seq (.ops [⟨d 59,none,.load 3 true (.t 13)⟩,
 ⟨d 60,none,.load 3 true (.t 12)⟩,⟨d 61,none,.call (kf 248) [(.t 59),(.t 60)]⟩,⟨d 58,none,.mov (.t 61)⟩,⟨d 62,none,.ext 0 (.t 58)⟩,⟨d 63,none,.ext 1 (.t 58)⟩,
 ⟨d 15,none,.alloc [.bool false,s0,s0]⟩,⟨none,none,.store 3 (.t 15) (.t 62)⟩,⟨d 16,none,.mov (.t 63)⟩]) (.ops [⟨d 64,none,.load 3 true (.t 6)⟩,⟨d 65,none,.load 3 true (.t 15)⟩,
 ⟨d 66,none,.call (kf 152) [(.t 64),(.t 65)]⟩,⟨none,none,.store 3 (.t 6) (.t 66)⟩])) .skip)))))) (.ops [⟨d 67,none,.bin .add (.t 36) (ki 1)⟩,
 ⟨d 36,none,.mov (.t 67)⟩]))))))) (.seq (.ops [⟨d 68,none,.load 3 true (.t 6)⟩,⟨none,none,.store 3 (.t 4) (.t 68)⟩,
 ⟨d 5,none,.mov (kb true)⟩]) .ret)))))),[(4,(some (3,true))),(5,none)]⟩
def a_slices_Equal__api_Rat_api_Rat : AF := ⟨26,(.seq (.ops [⟨d 4,none,.mov (kb false)⟩]) (.seq (.seq (.ops [⟨d 6,none,.mov (.t 0)⟩,⟨d 7,none,.len (.t 6)⟩,⟨d 8,none,.mov (.t 1)⟩,⟨d 9,none,.len (.t 8)⟩,
 ⟨d 10,none,.bin .neq (.t 7) (.t 9)⟩]) (.cond (.t 10) (.seq (.ops [⟨d 4,none,.mov (kb false)⟩]) .ret) .skip)) (.seq (.seq (.ops [⟨d 11,none,.mov (.t 0)⟩,⟨d 12,none,.len (.t 11)⟩,
 ⟨d 13,none,.mov (ki 0)⟩]) (.block 0 (.loop (.seq (.ops [⟨d 14,none,.bin .lss (.t 13) (.t 12)⟩]) (.seq (.cond (.t 14) .skip (.exit 0)) (.seq (.block 1 (.seq (.ops [⟨d 15,none,.mov (.t 13)⟩,
 ⟨d 5,none,.mov (.t 15)⟩]) (.seq (.drawn (.fin [⟨0,[],[],⟨d 16,none,.mov (.t 0)⟩⟩,⟨1,[],[],⟨d 17,none,.mov (.t 5)⟩⟩,⟨2,[0,1],[],⟨d 18,none,.iaddr 3 (.t 16) (.t 17)⟩⟩,⟨3,[2],[],
 ⟨d 19,none,.load 3 true (.t 18)⟩⟩,⟨4,[],[],⟨d 20,none,.mov (.t 1)⟩⟩,⟨5,[],[],⟨d 21,none,.mov (.t 5)⟩⟩,⟨6,[4,5],[],⟨d 22,none,.iaddr 3 (.t 20) (.t 21)⟩⟩,⟨7,[6],[],
 ⟨d 23,none,.load 3 true (.t 22)⟩⟩,⟨8,[3,7],[],
 ⟨d 24,none,.eqagg false (.t 19) (.t 23)⟩⟩]) [[],[],[1,0],[2,1,0],[],[],[5,4],[6,5,4],[7,6,5,4,3,2,1,0]] [16,17,18,19,20,21,22,23,24]) (.cond (.t 24) (.seq (.ops [⟨d 4,none,.mov (kb false)⟩]) .ret) .skip)))) (.ops [⟨d 25,none,.bin .add (.t 13) (ki 1)⟩,
 ⟨d 13,none,.mov (.t 25)⟩]))))))) (.seq (.ops [⟨d 4,none,.mov (kb true)⟩]) .ret)))),[(4,none)]⟩
def a_linear_check : AF := ⟨39,(.seq (.ops [⟨d 2,none,.mov (ki 0)⟩]) (.seq (.seq (.ops [⟨d 5,none,.mov (.t 0)⟩,⟨d 6,none,.len (.t 5)⟩,⟨d 7,none,.bin .eql (.t 6) (ki 0)⟩,⟨d 8,none,.mov (.t 7)⟩,
 ⟨(some 9),(some (8,false)),.mov (.t 0)⟩,⟨(some 10),(some (8,false)),.iaddr 1 (.t 9) (ki 0)⟩,⟨(some 11),(some (8,false)),.load 1 false (.t 10)⟩,
 ⟨(some 12),(some (8,false)),.len (.t 11)⟩,⟨(some 13),(some (8,false)),.bin .eql (.t 12) (ki 0)⟩,
 ⟨d 14,none,.pick (.t 8) (kb true) (.t 13)⟩]) (.cond (.t 14) (.seq (.ops [⟨d 2,none,.mov (ki 4)⟩]) .ret) .skip)) (.seq (.seq (.ops [⟨d 15,none,.mov (.t 0)⟩,
 ⟨d 16,none,.len (.t 15)⟩,
 ⟨d 17,none,.mov (ki 0)⟩]) (.block 0 (.loop (.seq (.ops [⟨d 18,none,.bin .lss (.t 17) (.t 16)⟩]) (.seq (.cond (.t 18) .skip (.exit 0)) (.seq (.block 1 (.seq (.ops [⟨d 19,none,.iaddr 1 (.t 15) (.t 17)⟩,
 ⟨d 20,none,.load 1 false (.t 19)⟩,⟨d 4,none,.mov (.t 20)⟩]) (.seq (.ops [⟨d 21,none,.mov (.t 4)⟩,⟨d 22,none,.len (.t 21)⟩,⟨d 23,none,.mov (.t 0)⟩,
 ⟨d 24,none,.iaddr 1 (.t 23) (ki 0)⟩,⟨d 25,none,.load 1 false (.t 24)⟩,⟨d 26,none,.len (.t 25)⟩,
 ⟨d 27,none,.bin .neq (.t 22) (.t 26)⟩]) (.cond (.t 27) (.seq (.ops [⟨d 2,none,.mov (ki 4)⟩]) .ret) .skip)))) (.ops [⟨d 28,none,.bin .add (.t 17) (ki 1)⟩,
 ⟨d 17,none,.mov (.t 28)⟩]))))))) (.seq (.seq (.ops [⟨d 29,none,.mov (.t 0)⟩,⟨d 30,none,.len (.t 29)⟩,⟨d 31,none,.bin .gtr (.t 30) (ki 16)⟩,⟨d 32,none,.mov (.t 31)⟩,
 ⟨(some 33),(some (32,false)),.mov (.t 0)⟩,⟨(some 34),(some (32,false)),.iaddr 1 (.t 33) (ki 0)⟩,⟨(some 35),(some (32,false)),.load 1 false (.t 34)⟩,
 ⟨(some 36),(some (32,false)),.len (.t 35)⟩,⟨(some 37),(some (32,false)),.bin .gtr (.t 36) (ki 16)⟩,
 ⟨d 38,none,.pick (.t 32) (kb true) (.t 37)⟩]) (.cond (.t 38) (.seq (.ops [⟨d 2,none,.mov (ki 2)⟩]) .ret) .skip)) (.seq (.ops [⟨d 2,none,.mov (ki 0)⟩]) .ret))))),[(2,none)]⟩
def a_linear_denominator : AF := ⟨9,(.seq (.ops [⟨d 1,none,.box (.t 0)⟩,⟨d 2,none,.mov (.k (.c (s0)))⟩]) (.seq (.seq (.ops [⟨d 3,none,.faddr 2 (.t 1)⟩,⟨d 4,none,.load 1 false (.t 3)⟩,
 ⟨d 5,none,.bin .eql (.t 4) (.k (.c (s0)))⟩]) (.cond (.t 5) (.seq (.ops [⟨d 6,none,.call (kf 275) [(.k (.c (.int .u64 (.ofNat 1))))]⟩,
 ⟨d 2,none,.mov (.t 6)⟩]) .ret) .skip)) (.seq (.ops [⟨d 7,none,.faddr 2 (.t 1)⟩,⟨d 8,none,.load 1 false (.t 7)⟩,⟨d 2,none,.mov (.t 8)⟩]) .ret))),[(2,none)]⟩
def a_waterfall_ladder_gap : AF := ⟨26,(.seq (.ops [⟨d 3,none,.box (.t 1)⟩,⟨d 4,none,.alloc [.bool false,s0,s0]⟩,⟨d 5,none,.mov (kb false)⟩]) (.seq (.ops [⟨d 9,none,.mov (.t 0)⟩,⟨d 10,none,.load 3 true (.t 3)⟩,
 ⟨d 11,none,.call (kf 272) [(.t 9),(.t 10)]⟩,⟨d 8,none,.mov (.t 11)⟩,⟨d 12,none,.ext 0 (.t 8)⟩,⟨d 13,none,.ext 1 (.t 8)⟩,⟨d 7,none,.alloc [.bool false,s0,s0]⟩,
 ⟨d 6,none,.mov (.t 12)⟩,⟨none,none,.store 3 (.t 7) (.t 13)⟩]) (.seq (.seq (.ops [⟨d 14,none,.mov (.t 6)⟩,⟨d 15,none,.mov (.t 0)⟩,⟨d 16,none,.len (.t 15)⟩,
 ⟨d 17,none,.bin .eql (.t 14) (.t 16)⟩]) (.cond (.t 17) (.seq (.ops [⟨d 18,none,.build [.bool false,s0,s0] []⟩,⟨none,none,.store 3 (.t 4) (.t 18)⟩,
 ⟨d 5,none,.mov (kb false)⟩]) .ret) .skip)) (.seq (.drawn (.act [⟨0,[],[],⟨d 19,none,.mov (.t 0)⟩⟩,⟨1,[],[],⟨d 20,none,.mov (.t 6)⟩⟩,⟨2,[0,1],[],
 ⟨d 21,none,.iaddr 4 (.t 19) (.t 20)⟩⟩,⟨3,[2],[],⟨d 22,none,.faddr 1 (.t 21)⟩⟩,⟨4,[3],[],⟨d 23,none,.load 3 true (.t 22)⟩⟩,⟨5,[],[],⟨d 24,none,.load 3 true (.t 7)⟩⟩] ⟨6,[4,5],[],
 ⟨d 25,none,.call (kf 78) [(.t 23),(.t 24)]⟩⟩ (.act [] ⟨7,[6],[],⟨none,none,.store 3 (.t 4) (.t 25)⟩⟩ (.fin [⟨8,[],[],
 ⟨d 5,none,.mov (kb true)⟩⟩]))) [[],[],[1,0],[2,1,0],[3,2,1,0],[],[5,4,3,2,1,0],[6,5,4,3,2,1,0],[7,6,5,4,3,2,1,0]] [19,20,21,22,23,24,25,5]) .ret)))),[(4,(some (3,true))),(5,none)]⟩
end Go.Proofs.Xe

namespace Go.Proofs.Xe
open Go.Proofs
def fnT : FT := (.node 34 a_l0_Late (.node 12 a_r21_SameBools (.node 10 a_l21_group (.node 3 a_l21_DefaultcostShort .leaf .leaf) (.node 11 a_l0_Amounts .leaf .leaf)) (.node 14 a_r21_Short (.node 13 a_defaultcost_Short .leaf .leaf) (.node 20 a_l0_Group .leaf .leaf))) (.node 49 a_l0_owe (.node 39 a_r21_paid (.node 37 a_defaultcost_paid .leaf .leaf) (.node 48 a_l0_agree .leaf .leaf)) (.node 86 a_l0_taken (.node 85 a_l0_free .leaf .leaf) .leaf)))
noncomputable def EN : Env := ⟨fnT.find, orcA⟩
instance EN_a : HasA EN := ⟨fun _ _ _ _ h => h⟩
theorem F_l21_DefaultcostShort : EN.fns 3 = some a_l21_DefaultcostShort := by kernel_rfl
theorem O_l21_DefaultcostShort (args : List V) (σ : St) : EN.orc 3 args σ = none := by rfl
theorem F_l21_group : EN.fns 10 = some a_l21_group := by kernel_rfl
theorem O_l21_group (args : List V) (σ : St) : EN.orc 10 args σ = none := by rfl
theorem F_l0_Amounts : EN.fns 11 = some a_l0_Amounts := by kernel_rfl
theorem O_l0_Amounts (args : List V) (σ : St) : EN.orc 11 args σ = none := by rfl
theorem F_r21_SameBools : EN.fns 12 = some a_r21_SameBools := by kernel_rfl
theorem O_r21_SameBools (args : List V) (σ : St) : EN.orc 12 args σ = none := by rfl
theorem F_defaultcost_Short : EN.fns 13 = some a_defaultcost_Short := by kernel_rfl
theorem O_defaultcost_Short (args : List V) (σ : St) : EN.orc 13 args σ = none := by rfl
theorem F_r21_Short : EN.fns 14 = some a_r21_Short := by kernel_rfl
theorem O_r21_Short (args : List V) (σ : St) : EN.orc 14 args σ = none := by rfl
theorem F_l0_Group : EN.fns 20 = some a_l0_Group := by kernel_rfl
theorem O_l0_Group (args : List V) (σ : St) : EN.orc 20 args σ = none := by rfl
theorem F_l0_Late : EN.fns 34 = some a_l0_Late := by kernel_rfl
theorem O_l0_Late (args : List V) (σ : St) : EN.orc 34 args σ = none := by rfl
theorem F_defaultcost_paid : EN.fns 37 = some a_defaultcost_paid := by kernel_rfl
theorem O_defaultcost_paid (args : List V) (σ : St) : EN.orc 37 args σ = none := by rfl
theorem F_r21_paid : EN.fns 39 = some a_r21_paid := by kernel_rfl
theorem O_r21_paid (args : List V) (σ : St) : EN.orc 39 args σ = none := by rfl
theorem F_l0_agree : EN.fns 48 = some a_l0_agree := by kernel_rfl
theorem O_l0_agree (args : List V) (σ : St) : EN.orc 48 args σ = none := by rfl
theorem F_l0_owe : EN.fns 49 = some a_l0_owe := by kernel_rfl
theorem O_l0_owe (args : List V) (σ : St) : EN.orc 49 args σ = none := by rfl
theorem F_l0_free : EN.fns 85 = some a_l0_free := by kernel_rfl
theorem O_l0_free (args : List V) (σ : St) : EN.orc 85 args σ = none := by rfl
theorem F_l0_taken : EN.fns 86 = some a_l0_taken := by kernel_rfl
theorem O_l0_taken (args : List V) (σ : St) : EN.orc 86 args σ = none := by rfl
end Go.Proofs.Xe

set_option linter.unusedSimpArgs false
set_option linter.unusedVariables false
namespace Go.Proofs.Xe
open Go.RowKit Go.Proofs.Ins
attribute [go_sem] rq_of
def HTab (p : Nat → Prop) (h : Tr Bk) (v : B) (L : List (List Rat)) : Prop := ∃ R : Nat → B, HLp p h 1 v L.length (fun i => [R i]) ∧ ∀ i, i < L.length → HLp p h 3 (R i) (ix L i).length fun k => ratC (ix (ix L i) k)
theorem HTab.keep {p q : Nat → Prop} {h h' : Tr Bk} {v : B} {L : List (List Rat)} (hl : HTab p h v L) (hk : ∀ b, p b → h' b = h b) (hp : ∀ b, p b → q b) : HTab q h' v L := by
 obtain ⟨R, h1, h2⟩ := hl
 exact ⟨R, h1.keep hk hp, fun i hi => (h2 i hi).keep hk hp⟩
def Lt (n b : Nat) : Prop := b < n
theorem Fr.lt {σ σ' : St} (h : Fr σ σ') : ∀ b, Lt σ.nxt b → σ'.h b = σ.h b := fun b hb => h.old b hb
theorem HLp.lt {σ : St} (hW : WF σ) {p : Nat → Prop} {e n : Nat} {v : B} {G : Nat → List B} (hl : HLp p σ.h e v n G) : HLp (Lt σ.nxt) σ.h e v n G := by
 rcases hl with h | ⟨b, o, c, h1, h2, h3⟩
 ·exact .inl h
 ·exact .inr ⟨b, o, c, h1, fun h => hW.ld_lt (h3 0 h), h3⟩
theorem HTab.lt {σ : St} (hW : WF σ) {p : Nat → Prop} {v : B} {L : List (List Rat)} (hl : HTab p σ.h v L) : HTab (Lt σ.nxt) σ.h v L := by
 obtain ⟨R, h1, h2⟩ := hl
 exact ⟨R, h1.lt hW, fun i hi => (h2 i hi).lt hW⟩
theorem HGrp.lt {σ : St} (hW : WF σ) {p : Nat → Prop} {ev dv : B} {g : Grp} (hg : HGrp p σ.h ev dv g) : HGrp (Lt σ.nxt) σ.h ev dv g := by
 obtain ⟨⟨C, A, h1, h2⟩, ⟨L, h3, h4⟩⟩ := hg
 refine ⟨⟨C, A, h1.lt hW, fun i hi => ⟨(h2 i hi).1.lt hW, ?_⟩⟩, ⟨L, h3.lt hW, fun i hi => (h4 i hi).lt hW⟩⟩
 obtain ⟨T, k1, k2⟩ := (h2 i hi).2
 refine ⟨T, k1.lt hW, fun j hj => ?_⟩
 obtain ⟨U, m1, m2⟩ := k2 j hj
 exact ⟨U, m1.lt hW, fun l hl => (m2 l hl).lt hW⟩
theorem HTab.fr {σ σ' : St} (hW : WF σ) (hf : Fr σ σ') {p : Nat → Prop} {v : B} {L : List (List Rat)} (hl : HTab p σ.h v L) : HTab (Lt σ.nxt) σ'.h v L := (hl.lt hW).keep hf.lt fun _ h => h
theorem HGrp.fr {σ σ' : St} (hW : WF σ) (hf : Fr σ σ') {p : Nat → Prop} {ev dv : B} {g : Grp} (hg : HGrp p σ.h ev dv g) : HGrp (Lt σ.nxt) σ'.h ev dv g := (hg.lt hW).keep hf.lt fun _ h => h
theorem HLp.fr {σ σ' : St} (hW : WF σ) (hf : Fr σ σ') {p : Nat → Prop} {e n : Nat} {v : B} {G : Nat → List B} (hl : HLp p σ.h e v n G) : HLp (Lt σ.nxt) σ'.h e v n G := (hl.lt hW).keep hf.lt fun _ h => h
theorem ld_one {h : Tr Bk} {b o : Nat} {x : B} (e : ld h b o 1 true = some (.agg [x])) : ld h b o 1 false = some (.c x) ∧ x.kn = true := by
 have hk : x.kn = true := by
  unfold ld at e
  split at e
  ·next k _ =>
   cases hr : k.rd with
   | false => rw [hr] at e; cases e
   | true =>
    rw [hr] at e
    simp only [cond_true] at e
    unfold rdC at e
    dsimp only at e
    cases hx : (Nat.beq ((k.cells.drop o).take 1).length 1 && ((k.cells.drop o).take 1).all B.kn) with
    | false => rw [hx] at e; cases e
    | true =>
     rw [hx] at e
     have e2 := V.agg.inj (Option.some.inj e)
     rw [Bool.and_eq_true, e2] at hx
     simpa using hx.2
  ·cases e
 refine ⟨?_, hk⟩
 rw [ld_sub0 e 1 false (Nat.le_refl 1) (by decide)]
 unfold rdC
 simp [hk]
def paidQ (L : List (List Rat)) (i k : Nat) : Rat := if i < L.length then (if k < (ix L i).length then ix (ix L i) k else 0) else 0
def SzT (L : List (List Rat)) : Prop := ∀ i, i < L.length → ∀ k, k < (ix L i).length → Sz (ix (ix L i) k)
theorem Sz.zero : Sz 0 := ⟨by show (0 : Rat).num.natAbs < _; exact Nat.pow_pos (by decide), by show (0 : Rat).den < _; exact Nat.one_lt_pow (by decide) (by decide)⟩
theorem SzT.paid {L : List (List Rat)} (h : SzT L) (i k : Nat) : Sz (paidQ L i k) := by
 unfold paidQ
 split
 ·next hi =>
  split
  ·next hk => exact h i hi k hk
  ·exact Sz.zero
 ·exact Sz.zero
theorem Sz.two {q : Rat} (h : Sz q) : (rs q).size + (rd q).size ≤ 130000000 := by have := h.sizes; omega
def setC (m gv n2 n3 n4 n5 n6 n7 : B) : List B := [m, gv, n2, n3, n4, n5, n6, n7]
section
variable {m gv n2 n3 n4 n5 n6 n7 : B}
set_option maxRecDepth 10000 in
theorem paid_x {σ : St} (hW : WF σ) {p : Nat → Prop} (L : List (List Rat)) (hT : HTab p σ.h gv L) (hm : m.kn = true) (k2 : n2.kn = true) (k3 : n3.kn = true) (k4 : n4.kn = true) (k5 : n5.kn = true) (k6 : n6.kn = true) (k7 : n7.kn = true) (i k : Nat) :
  CallX EN 37 [.agg [m, gv, n2, n3, n4, n5, n6, n7], .c (.int .i64 (.ofNat i)), .c (.int .i64 (.ofNat k))] σ fun r σ' => r = rV (paidQ L i k) ∧ Fr σ σ' := by
 refine call_fn (O_defaultcost_paid _ _) F_defaultcost_paid ?_
 unfold a_defaultcost_paid
 obtain ⟨R, hR, hR2⟩ := hT
 have hlen := hR.len
 have hkn := hR.kn
 simp (config := { maxSteps := 1000000 }) (disch := first | assumption | decide | omega) only [go_sem, z3, hlen, hkn, lt_ofNat]
 refine gsV_dec (fun hi => ?_) (fun hi => ?_)
 ·obtain ⟨b, o, c, rfl, -, hld⟩ := hR.pos (by omega)
  obtain ⟨l1, l2⟩ := ld_one (hld i hi)
  have hb := hW.ld_lt l1
  have hRi := hR2 i hi
  have hlen2 := hRi.len
  simp (config := { maxSteps := 1000000 }) (disch := first | assumption | decide | omega) only [go_sem, z3, hlen, hkn, hi, l1, hlen2, lt_ofNat]
  refine ifV_dec (fun hk => ?_) (fun hk => ?_)
  ·obtain ⟨b2, o2, c2, e2, -, hld2⟩ := hRi.pos (by omega)
   have hld2 := hld2 k hk
   have hb2 := hW.ld_lt hld2
   unfold ratC at hld2
   rw [e2] at l1
   simp (config := { maxSteps := 1000000 }) (disch := first | assumption | decide | omega) only [go_sem, z3, hkn, l1, hld2]
   refine ⟨?_, ?_⟩
   ·unfold paidQ rV
    rw [if_pos hi, if_pos hk]
   ·repeat (first | assumption | exact Fr.refl (by assumption) | exact Fr.up (by assumption) (by first | omega | (dsimp only; omega)) | exact Fr.up (Fr.refl (by assumption)) (by first | omega | (dsimp only; omega)) | refine Fr.set1 ?_ (by first | omega | (dsimp only; omega)) (by first | omega | (dsimp only; omega)) | refine Fr.del1 ?_ (by first | omega | (dsimp only; omega)) | refine Fr.newU ?_ (by first | omega | (dsimp only; omega)))
  ·simp (config := { maxSteps := 1000000 }) (disch := first | assumption | decide | omega) only [go_sem, z3]
   refine ⟨?_, ?_⟩
   ·unfold paidQ rV
    rw [if_pos hi, if_neg hk]
   ·repeat (first | assumption | exact Fr.refl (by assumption) | exact Fr.up (by assumption) (by first | omega | (dsimp only; omega)) | exact Fr.up (Fr.refl (by assumption)) (by first | omega | (dsimp only; omega)) | refine Fr.set1 ?_ (by first | omega | (dsimp only; omega)) (by first | omega | (dsimp only; omega)) | refine Fr.del1 ?_ (by first | omega | (dsimp only; omega)) | refine Fr.newU ?_ (by first | omega | (dsimp only; omega)))
 ·simp (config := { maxSteps := 1000000 }) (disch := first | assumption | decide | omega) only [go_sem, z3, hi]
  refine ⟨?_, ?_⟩
  ·unfold paidQ rV
   rw [if_neg hi]
  ·repeat (first | assumption | exact Fr.refl (by assumption) | exact Fr.up (by assumption) (by first | omega | (dsimp only; omega)) | exact Fr.up (Fr.refl (by assumption)) (by first | omega | (dsimp only; omega)) | refine Fr.set1 ?_ (by first | omega | (dsimp only; omega)) (by first | omega | (dsimp only; omega)) | refine Fr.del1 ?_ (by first | omega | (dsimp only; omega)) | refine Fr.newU ?_ (by first | omega | (dsimp only; omega)))
end
end Go.Proofs.Xe

set_option linter.unusedSimpArgs false
set_option linter.unusedVariables false
namespace Go.Proofs.Xe
open Go.RowKit Go.Proofs.Ins
theorem cel_ld {h : Tr Bk} {b n e : Nat} {G : Nat → List B} {o : Option (Nat × Nat)} (hb : h b = some ⟨celR n G, o⟩) (hr : rdo o = true) (hG : ∀ j, (G j).length = e) (he : 0 < e) (hk : ∀ j, j < n → (G j).all B.kn = true) {i : Nat} (hi : i < n) : ld h b (0 + i * e) e true = some (.agg (G i)) := by
 rw [ld_blk hb, rd_rdo, hr, cond_true, Nat.zero_add]
 have := rd_cel (k := 0) (m := e) true hG hi (by omega) he
 rw [Nat.add_zero] at this
 rw [this]
 unfold rdC
 dsimp only
 rw [List.drop_zero, ← hG i, List.take_length, beq_s, hk i hi]; rfl
theorem cel_hlp {p : Nat → Prop} {h : Tr Bk} {b n e : Nat} {G : Nat → List B} {o : Option (Nat × Nat)} (c : Cap) (hb : h b = some ⟨celR n G, o⟩) (hr : rdo o = true) (hp : p b) (hG : ∀ j, (G j).length = e) (he : 0 < e) (hk : ∀ j, j < n → (G j).all B.kn = true) : HLp p h e (.sl b 0 n c) n G :=
 .inr ⟨b, 0, c, rfl, fun _ => hp, fun _ hi => cel_ld hb hr hG he hk hi⟩
def OwnL (h : Tr Bk) (v : B) (n : Nat) (G : Nat → List B) (e ty lo hi : Nat) : Prop :=
 (n = 0 ∧ v = .nils) ∨ (0 < n ∧ ∃ b, v = .sl b 0 n .opn ∧ h b = some ⟨celR n G, some (e, ty)⟩ ∧ lo ≤ b ∧ b < hi)
theorem OwnL.nil {h : Tr Bk} {G : Nat → List B} {e ty lo hi : Nat} : OwnL h .nils 0 G e ty lo hi := .inl ⟨rfl, rfl⟩
theorem OwnL.hlp {p : Nat → Prop} {h : Tr Bk} {v : B} {n : Nat} {G : Nat → List B} {e ty lo hi : Nat} (ho : OwnL h v n G e ty lo hi) (hG : ∀ j, (G j).length = e) (he : 0 < e) (hk : ∀ j, j < n → (G j).all B.kn = true) (hp : ∀ b, lo ≤ b → b < hi → p b) : HLp p h e v n G := by
 rcases ho with h1 | ⟨h0, b, rfl, h1, h2, h3⟩
 ·exact .inl h1
 ·exact cel_hlp _ h1 (by rw [rdo_s _ _ (by omega)]) (hp b h2 h3) hG he hk
theorem OwnL.len {h : Tr Bk} {v : B} {n : Nat} {G : Nat → List B} {e ty lo hi : Nat} (ho : OwnL h v n G e ty lo hi) : lenV (.c v) = some (.c (.int .i64 (.ofNat n))) := by
 rcases ho with ⟨rfl, rfl⟩ | ⟨h0, b, rfl, -⟩ <;> rfl
theorem OwnL.kn {h : Tr Bk} {v : B} {n : Nat} {G : Nat → List B} {e ty lo hi : Nat} (ho : OwnL h v n G e ty lo hi) : v.kn = true := by
 rcases ho with ⟨rfl, rfl⟩ | ⟨h0, b, rfl, -⟩ <;> rfl
theorem OwnL.mono {h h' : Tr Bk} {v : B} {n : Nat} {G : Nat → List B} {e ty lo hi lo' hi' : Nat} (ho : OwnL h v n G e ty lo hi) (hh : ∀ b, lo ≤ b → b < hi → h' b = h b) (h1 : lo' ≤ lo) (h2 : hi ≤ hi') : OwnL h' v n G e ty lo' hi' := by
 rcases ho with h | ⟨h0, b, rfl, k1, k2, k3⟩
 ·exact .inl h
 ·exact .inr ⟨h0, b, rfl, by rw [hh b k2 k3]; exact k1, by omega, by omega⟩
theorem OwnL.congr {h : Tr Bk} {v : B} {n : Nat} {G G' : Nat → List B} {e ty lo hi : Nat} (ho : OwnL h v n G e ty lo hi) (hg : ∀ i, i < n → G i = G' i) : OwnL h v n G' e ty lo hi := by
 rcases ho with h | ⟨h0, b, rfl, k1, k2, k3⟩
 ·exact .inl h
 ·exact .inr ⟨h0, b, rfl, by rw [k1, cel_congr hg], k2, k3⟩
theorem OwnL.snoc {h : Tr Bk} {nx n : Nat} {G : Nat → List B} {x : List B} {e ty lo : Nat} (hx : ∀ i, i < n → G i = G i) (hlo : lo ≤ nx) {cells : List B} (hc : cells = celR n G ++ x) {G' : Nat → List B} (hg : ∀ i, i < n → G' i = G i) (hgn : G' n = x) (hi : Nat) (hhi : nx < hi) : OwnL (hset h nx ⟨cells, some (e, ty)⟩) (.sl nx 0 (n + 1) .opn) (n + 1) G' e ty lo hi := by
 refine .inr ⟨by omega, nx, rfl, ?_, hlo, hhi⟩
 rw [hset_get, hc, cel_snoc]
 congr 2
 refine cel_congr fun i hi => ?_
 unfold updG
 split
 ·next e => rw [e, hgn]
 ·rw [hg i (by omega)]
theorem cel_take {e n : Nat} {G : Nat → List B} (hG : ∀ j, (G j).length = e) : (celR n G).take (n * e) = celR n G := by rw [← cel_len hG, List.take_length]
theorem HL.one {h : Tr Bk} {v : B} {n : Nat} {G : Nat → B} (hl : HL h 1 v n fun i => [G i]) (hn : 0 < n) : ∃ b o c, v = .sl b o n c ∧ ∀ i, i < n → ld h b (o + i * 1) 1 false = some (.c (G i)) := by
 obtain ⟨b, o, c, e, hld⟩ := hl.pos hn
 exact ⟨b, o, c, e, fun i hi => (ld_one (hld i hi)).1⟩
theorem xsm_int {i : Int} {k : Nat} (h : i.natAbs < 256 ^ k) (hk : 0 < k) : Sm k (i : Rat) := Sm.int (by omega) h
theorem xsm_frac {i j : Int} (hi : i.natAbs < 65536) (hj : j.natAbs < 65536) (h0 : j ≠ 0) : Sm 4 ((i : Rat) / (j : Rat)) :=
 Sm.div (k := 2) (l := 2) (xsm_int (by omega) (by omega)) (xsm_int (by omega) (by omega)) (by
  intro h; apply h0
  have : ((j : Rat)).num = (0 : Rat).num := by rw [h]
  rw [Rat.num_intCast] at this; exact this)
theorem amt_small (x : Nat) : Sm 4 (amt x) := by
 by_cases h : x % 5 = 0
 ·rw [amt_0 h]; exact xsm_frac (by omega) (by omega) (by omega)
 ·by_cases h1 : x % 5 = 1
  ·rw [amt_1 h1]; exact xsm_int (by omega) (by omega)
  ·rw [amt_2 h h1]; exact xsm_int (by omega) (by omega)
theorem amt_sz (x : Nat) : Sz (amt x) := by
 unfold Sz
 exact (amt_small x).mono (by decide)
set_option maxRecDepth 10000 in
theorem amounts_x {σ : St} (hW : WF σ) {n : Nat} (M : Nat → Nat) (v : B) (hv : HL σ.h 1 v n fun i => [.int .u16 (.ofNat (M i))]) (hM : ∀ i, i < n → M i ≤ 65535) (m : Nat) (hm : m ≤ 1000) :
  CallX EN 11 [.c v, .c (.int .i64 (.ofNat m))] σ fun r σ' => ∃ rv, r = .c rv ∧ OwnL σ'.h rv (min n m) (fun k => ratC (amt (M k))) 3 71 σ.nxt σ'.nxt ∧ Fr σ σ' := by
 refine call_fn (O_l0_Amounts _ _) F_l0_Amounts ?_
 unfold a_l0_Amounts
 have hlen := hv.len
 simp (config := { maxSteps := 1000000 }) (disch := first | assumption | decide | omega) only [go_sem, z3]
 refine run_loop (fun q tm σ' => ∃ i rv, q = min n m - i ∧ i ≤ min n m ∧ Tr.getV tm 0 = .c v ∧ Tr.getV tm 1 = .c (.int .i64 (.ofNat m)) ∧ Tr.getV tm 5 = .c rv ∧ Tr.getV tm 6 = .c (.int .i64 (.ofNat i))
  ∧ OwnL σ'.h rv i (fun k => ratC (amt (M k))) 3 71 σ.nxt σ'.nxt ∧ Fr σ σ') (min n m) ?_ ?_
 ·refine ⟨0, .nils, by omega, by omega, ?_⟩
  simp (config := { maxSteps := 1000000 }) (disch := first | assumption | decide | omega) only [go_sem, z3, true_and]
  exact ⟨.nil, Fr.refl hW⟩
 ·rintro q tm σ' ⟨i, rv, rfl, hi, t0, t1, t5, t6, hO, hf⟩
  simp (config := { maxSteps := 1000000 }) (disch := first | assumption | decide | omega) only [go_sem, z3, t0, t1, t5, t6, hlen, lt_ofNat]
  refine gsV_dec (fun h1 => ?_) (fun h1 => ?_)
  ·simp (config := { maxSteps := 1000000 }) (disch := first | assumption | decide | omega) only [go_sem, z3, t0, t1, t5, t6, h1, lt_ofNat]
   refine ifV_dec (fun h2 => ?_) (fun h2 => ?_)
   ·obtain ⟨b, o, c, rfl, hld⟩ := hv.one (by omega)
    have hld := hf.ld hW (hld i h1)
    have hMi := hM i h1
    have hle := hf.le
    rcases hO with ⟨rfl, rfl⟩ | ⟨h0, bo, rfl, k1, k2, k3⟩
    ·simp (config := { maxSteps := 1000000 }) (disch := first | assumption | decide | omega) only [go_sem, z3, t0, t1, t5, t6, hld]
     refine ⟨min n m - 1, by omega, 1, _, rfl, by omega, rfl, rfl, ?_, ?_⟩
     ·exact OwnL.snoc (n := 0) (G := fun k => ratC (amt (M k))) (fun _ _ => rfl) (by have := hf.le; omega) rfl (fun _ _ => rfl) rfl _ (by omega)
     ·repeat (first | assumption | exact Fr.refl (by assumption) | exact Fr.up (by assumption) (by first | omega | (dsimp only; omega)) | exact Fr.up (Fr.refl (by assumption)) (by first | omega | (dsimp only; omega)) | refine Fr.set1 ?_ (by first | omega | (dsimp only; omega)) (by first | omega | (dsimp only; omega)) | refine Fr.del1 ?_ (by first | omega | (dsimp only; omega)) | refine Fr.newU ?_ (by first | omega | (dsimp only; omega)))
    ·have k1' : σ'.h bo = some ⟨rats i (fun k => amt (M k)), some (3, 71)⟩ := k1
     have hl3 := len_rats i fun k => amt (M k)
     simp (config := { maxSteps := 1000000 }) (disch := first | assumption | decide | omega) only [go_sem, z3, t0, t1, t5, t6, hld, k1']
     refine ⟨min n m - (i + 1), by omega, i + 1, _, rfl, by omega, rfl, rfl, ?_, ?_⟩
     ·refine OwnL.snoc (n := i) (G := fun k => ratC (amt (M k))) (fun _ _ => rfl) (by omega) ?_ (fun _ _ => rfl) rfl _ (by omega)
      rw [← rats_snoc]; rfl
     ·repeat (first | assumption | exact Fr.refl (by assumption) | exact Fr.up (by assumption) (by first | omega | (dsimp only; omega)) | exact Fr.up (Fr.refl (by assumption)) (by first | omega | (dsimp only; omega)) | refine Fr.set1 ?_ (by first | omega | (dsimp only; omega)) (by first | omega | (dsimp only; omega)) | refine Fr.del1 ?_ (by first | omega | (dsimp only; omega)) | refine Fr.newU ?_ (by first | omega | (dsimp only; omega)))
   ·have : i = min n m := by omega
    subst this
    simp (config := { maxSteps := 1000000 }) (disch := first | assumption | decide | omega) only [go_sem, z3, t5]
    exact ⟨_, rfl, hO, hf⟩
  ·have : i = min n m := by omega
   subst this
   simp (config := { maxSteps := 1000000 }) (disch := first | assumption | decide | omega) only [go_sem, z3, t5, h1]
   exact ⟨_, rfl, hO, hf⟩
end Go.Proofs.Xe
