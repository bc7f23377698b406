/- The executor: the functions that it knows. -/
import Derived.Test.YthplmloambdmlaaGreatDoorZ24
import Derived.Test.YthplmloambdmlaaGreatDoorProg
import Derived.Test.YthplmloambdmlaaGreatDoorZ25
import Derived.Test.YthplmloambdmlaaGreatDoorZ26
import Derived.Test.YthplmloambdmlaaGreatDoorZ27

namespace Go.Proofs.Ex
open Go.Proofs
def a294 : AF := ⟨46,(.seq (.ops [⟨d 2,none,.box (.t 0)⟩,⟨d 3,none,.box (.t 1)⟩,⟨d 4,none,.alloc [.bool false,.nat 0,.nat 0]⟩,
  ⟨d 5,none,.mov (.k (.c (.bool false)))⟩]) (.seq (.ops [⟨d 13,none,.load 6 true (.t 2)⟩,⟨d 14,none,.load 3 true (.t 3)⟩,⟨d 15,none,.call (kF 158) [(.t 13),(.t 14)]⟩,
  ⟨d 12,none,.mov (.t 15)⟩,⟨d 16,none,.ext 0 (.t 12)⟩,⟨d 17,none,.ext 1 (.t 12)⟩,⟨d 7,none,.alloc [.bool false,.nat 0,.nat 0]⟩,⟨d 6,none,.mov (.t 16)⟩,
  ⟨none,none,.store 3 (.t 7) (.t 17)⟩]) (.block 0 (.loop (.block 1 (.seq (.ops [⟨d 19,none,.load 6 true (.t 2)⟩,⟨d 20,none,.load 3 true (.t 3)⟩,
  ⟨d 21,none,.call (kF 334) [(.t 19),(.t 20)]⟩,⟨d 18,none,.mov (.t 21)⟩,⟨d 22,none,.ext 0 (.t 18)⟩,⟨d 23,none,.ext 1 (.t 18)⟩,⟨d 8,none,.alloc [.bool false,.nat 0,.nat 0]⟩,
  ⟨none,none,.store 3 (.t 8) (.t 22)⟩,⟨d 9,none,.mov (.t 23)⟩]) (.seq (.seq (.ops [⟨d 24,none,.mov (.t 9)⟩,
  ⟨d 25,none,.not (.t 24)⟩]) (.cond (.t 25) (.seq (.ops [⟨d 26,none,.build [.bool false,.nat 0,.nat 0] []⟩,⟨none,none,.store 3 (.t 4) (.t 26)⟩,
  ⟨d 5,none,.mov (.k (.c (.bool false)))⟩]) .ret) .skip)) (.seq (.ops [⟨d 27,none,.load 3 true (.t 3)⟩,⟨d 28,none,.load 3 true (.t 8)⟩,⟨d 29,none,.call (kF 17) [(.t 27),(.t 28)]⟩,
  ⟨none,none,.store 3 (.t 3) (.t 29)⟩]) (.seq (.ops [⟨d 31,none,.load 6 true (.t 2)⟩,⟨d 32,none,.load 3 true (.t 3)⟩,⟨d 33,none,.call (kF 158) [(.t 31),(.t 32)]⟩,
  ⟨d 30,none,.mov (.t 33)⟩,⟨d 34,none,.ext 0 (.t 30)⟩,⟨d 35,none,.ext 1 (.t 30)⟩,⟨d 11,none,.alloc [.bool false,.nat 0,.nat 0]⟩,⟨d 10,none,.mov (.t 34)⟩,
  ⟨none,none,.store 3 (.t 11) (.t 35)⟩]) (.seq (.ops [⟨d 36,none,.load 3 true (.t 11)⟩,⟨d 37,none,.load 3 true (.t 7)⟩,⟨d 38,none,.eqagg false (.t 36) (.t 37)⟩,
  ⟨d 39,none,.mov (.t 38)⟩,⟨(some 40),(some (39,false)),.mov (.t 10)⟩,⟨(some 41),(some (39,false)),.mov (.t 6)⟩,⟨(some 42),(some (39,false)),.call (kF 335) [(.t 40),(.t 41)]⟩,
  ⟨(some 43),(some (39,false)),.not (.t 42)⟩,⟨d 44,none,.pick (.t 39) (.k (.c (.bool true))) (.t 43)⟩]) (.cond (.t 44) (.seq (.ops [⟨d 45,none,.load 3 true (.t 3)⟩,
  ⟨none,none,.store 3 (.t 4) (.t 45)⟩,⟨d 5,none,.mov (.k (.c (.bool true)))⟩]) .ret) .skip))))))))))),[(4,(some (3,true))),(5,none)]⟩
def a300 : AF := ⟨30,(.seq (.ops [⟨d 3,none,.box (.t 1)⟩,⟨d 4,none,.mov (kI 0)⟩,⟨d 5,none,.alloc [.bool false,.nat 0,.nat 0]⟩]) (.seq (.seq (.ops [⟨d 8,none,.mov (.t 0)⟩,⟨d 9,none,.len (.t 8)⟩,
  ⟨d 10,none,.mov (kI 0)⟩]) (.block 0 (.loop (.seq (.ops [⟨d 11,none,.bin .lss (.t 10) (.t 9)⟩]) (.seq (.cond (.t 11) .skip (.exit 0)) (.seq (.block 1 (.seq (.ops [⟨d 12,none,.mov (.t 10)⟩,
  ⟨d 13,none,.iaddr 4 (.t 8) (.t 10)⟩,⟨d 14,none,.load 4 true (.t 13)⟩,⟨d 7,none,.alloc [.nils,.bool false,.nat 0,.nat 0]⟩,⟨d 6,none,.mov (.t 12)⟩,
  ⟨none,none,.store 4 (.t 7) (.t 14)⟩]) (.seq (.seq (.ops [⟨d 15,none,.load 3 true (.t 3)⟩,⟨d 16,none,.faddr 1 (.t 7)⟩,⟨d 17,none,.load 3 true (.t 16)⟩,
  ⟨d 18,none,.call (kF 23) [(.t 15),(.t 17)]⟩,⟨d 19,none,.bin .lss (.t 18) (kI 0)⟩]) (.cond (.t 19) (.seq (.drawn (.act [⟨0,[],[],⟨d 20,none,.mov (.t 6)⟩⟩,⟨1,[],[],
  ⟨d 21,none,.load 3 true (.t 3)⟩⟩,⟨2,[0],[],⟨d 4,none,.mov (.t 20)⟩⟩] ⟨3,[1],[],
  ⟨none,none,.store 3 (.t 5) (.t 21)⟩⟩ (.fin [])) [[],[],[0],[2,0,1]] [20,21,4]) .ret) .skip)) (.ops [⟨d 22,none,.load 3 true (.t 3)⟩,⟨d 23,none,.faddr 1 (.t 7)⟩,
  ⟨d 24,none,.load 3 true (.t 23)⟩,⟨d 25,none,.call (kF 20) [(.t 22),(.t 24)]⟩,⟨none,none,.store 3 (.t 3) (.t 25)⟩])))) (.ops [⟨d 26,none,.bin .add (.t 10) (kI 1)⟩,
  ⟨d 10,none,.mov (.t 26)⟩]))))))) (.seq (.drawn (.act [⟨0,[],[],⟨d 27,none,.mov (.t 0)⟩⟩,⟨1,[0],[],⟨d 28,none,.len (.t 27)⟩⟩,⟨2,[],[],⟨d 29,none,.load 3 true (.t 3)⟩⟩,⟨3,[1],[],
  ⟨d 4,none,.mov (.t 28)⟩⟩] ⟨4,[2],[],⟨none,none,.store 3 (.t 5) (.t 29)⟩⟩ (.fin [])) [[],[0],[],[1,0],[3,1,0,2]] [27,28,29,4]) .ret))),[(4,none),(5,(some (3,true)))]⟩
def a301 : AF := ⟨32,(.seq (.ops [⟨d 5,none,.box (.t 2)⟩]) (.seq (.seq (.ops [⟨d 6,none,.mov (.t 1)⟩,
  ⟨d 7,none,.bin .eql (.t 6) (.k (.c (.int .i64 (.negSucc 0))))⟩]) (.cond (.t 7) (.seq (.drawn (.act [⟨0,[],[],⟨d 8,none,.mov (.t 0)⟩⟩,⟨1,[],[],⟨d 9,none,.mov (.t 0)⟩⟩,⟨2,[1],[],
  ⟨d 10,none,.nchk (.t 9)⟩⟩,⟨3,[2],[],⟨d 11,none,.faddr 1 (.t 10)⟩⟩,⟨4,[3],[],⟨d 12,none,.load 3 true (.t 11)⟩⟩,⟨5,[],[],⟨d 13,none,.load 3 true (.t 5)⟩⟩] ⟨6,[4,5],[],
  ⟨d 14,none,.call (kF 17) [(.t 12),(.t 13)]⟩⟩ (.act [⟨7,[0],[],⟨d 15,none,.nchk (.t 8)⟩⟩,⟨8,[7],[],⟨d 16,none,.faddr 1 (.t 15)⟩⟩] ⟨9,[8,6],[],
  ⟨none,none,.store 3 (.t 16) (.t 14)⟩⟩ (.fin []))) [[],[],[1],[2,1],[3,2,1],[],[5,4,3,2,1],[6,5,4,3,2,1,0],[6,5,4,3,2,1,0,7],[6,5,4,3,2,1,0,8,7]] [8,9,10,11,12,13,14,15,16]) .ret) .skip)) (.drawn (.act [⟨0,[],[],
  ⟨d 17,none,.mov (.t 0)⟩⟩,⟨1,[0],[],⟨d 18,none,.nchk (.t 17)⟩⟩,⟨2,[1],[],⟨d 19,none,.faddr 0 (.t 18)⟩⟩,⟨3,[2],[],⟨d 20,none,.load 1 false (.t 19)⟩⟩,⟨4,[],[],
  ⟨d 21,none,.mov (.t 1)⟩⟩,⟨5,[],[],⟨d 22,none,.mov (.t 0)⟩⟩,⟨6,[5],[],⟨d 23,none,.nchk (.t 22)⟩⟩,⟨7,[6],[],⟨d 24,none,.faddr 0 (.t 23)⟩⟩,⟨8,[7],[],
  ⟨d 25,none,.load 1 false (.t 24)⟩⟩,⟨9,[],[],⟨d 26,none,.mov (.t 1)⟩⟩,⟨10,[8,9],[],⟨d 27,none,.iaddr 3 (.t 25) (.t 26)⟩⟩,⟨11,[10],[],⟨d 28,none,.load 3 true (.t 27)⟩⟩,⟨12,[],[],
  ⟨d 29,none,.load 3 true (.t 5)⟩⟩] ⟨13,[11,12],[],⟨d 30,none,.call (kF 17) [(.t 28),(.t 29)]⟩⟩ (.act [⟨14,[3,4],[],⟨d 31,none,.iaddr 3 (.t 20) (.t 21)⟩⟩] ⟨15,[14,13],[],
  ⟨none,none,.store 3 (.t 31) (.t 30)⟩⟩ (.fin []))) [[],[0],[1,0],[2,1,0],[],[],[5],[6,5],[7,6,5],[],[9,8,7,6,5],[10,9,8,7,6,5],[],[12,11,10,9,8,7,6,5],[13,12,11,10,9,8,7,6,5,4,3,2,1,0],[13,12,11,10,9,8,7,6,5,4,3,2,1,0,14]] [17,18,19,20,21,22,23,24,25,26,27,28,29,30,31]))),[]⟩
def a302 : AF := ⟨33,(.seq (.ops [⟨d 4,none,.box (.t 1)⟩,⟨d 5,none,.box (.t 2)⟩]) (.seq (.ops [⟨d 11,none,.load 3 true (.t 5)⟩,⟨d 12,none,.faddr 1 (.t 4)⟩,⟨d 13,none,.load 3 true (.t 12)⟩,
  ⟨d 14,none,.call (kF 293) [(.t 11),(.t 13)]⟩,⟨d 10,none,.mov (.t 14)⟩,⟨d 15,none,.ext 0 (.t 10)⟩,⟨d 16,none,.ext 1 (.t 10)⟩,⟨d 6,none,.alloc [.bool false,.nat 0,.nat 0]⟩,
  ⟨none,none,.store 3 (.t 6) (.t 15)⟩,⟨d 7,none,.mov (.t 16)⟩]) (.seq (.ops [⟨d 17,none,.faddr 0 (.t 4)⟩,⟨d 18,none,.load 1 false (.t 17)⟩,⟨d 19,none,.len (.t 18)⟩,
  ⟨d 20,none,.mov (kI 0)⟩]) (.block 0 (.loop (.seq (.ops [⟨d 21,none,.bin .lss (.t 20) (.t 19)⟩]) (.seq (.cond (.t 21) .skip (.exit 0)) (.seq (.block 1 (.seq (.ops [⟨d 22,none,.iaddr 4 (.t 18) (.t 20)⟩,
  ⟨d 23,none,.load 4 true (.t 22)⟩,⟨d 9,none,.alloc [.int .i64 (.ofNat 0),.bool false,.nat 0,.nat 0]⟩,⟨none,none,.store 4 (.t 9) (.t 23)⟩]) (.drawn (.act [⟨0,[],[],
  ⟨d 24,none,.mov (.t 0)⟩⟩,⟨1,[],[],⟨d 25,none,.faddr 0 (.t 9)⟩⟩,⟨2,[1],[],⟨d 26,none,.load 1 false (.t 25)⟩⟩,⟨3,[],[],⟨d 27,none,.faddr 1 (.t 9)⟩⟩,⟨4,[3],[],
  ⟨d 28,none,.load 3 true (.t 27)⟩⟩,⟨5,[],[],⟨d 29,none,.load 3 true (.t 6)⟩⟩] ⟨6,[4,5],[],⟨d 30,none,.call (kF 26) [(.t 28),(.t 29)]⟩⟩ (.act [] ⟨7,[0,2,6],[],
  ⟨d 31,none,.call (kF 301) [(.t 24),(.t 26),(.t 30)]⟩⟩ (.fin []))) [[],[],[1],[],[3],[],[5,4,3],[6,5,4,3,2,1,0]] [24,25,26,27,28,29,30,31]))) (.ops [⟨d 32,none,.bin .add (.t 20) (kI 1)⟩,
  ⟨d 20,none,.mov (.t 32)⟩]))))))))),[]⟩
def a327 : AF := ⟨16,(.seq (.ops [⟨d 2,none,.mov (kI 0)⟩]) (.seq (.seq (.ops [⟨d 4,none,.mov (.t 0)⟩,⟨d 5,none,.call (kF 348) [(.t 4)]⟩,⟨d 3,none,.mov (.t 5)⟩]) (.seq (.ops [⟨d 6,none,.mov (.t 3)⟩,
  ⟨d 7,none,.bin .neq (.t 6) (kI 0)⟩]) (.cond (.t 7) (.seq (.ops [⟨d 8,none,.mov (.t 3)⟩,⟨d 2,none,.mov (.t 8)⟩]) .ret) .skip))) (.seq (.seq (.ops [⟨d 9,none,.mov (.t 0)⟩,
  ⟨d 10,none,.len (.t 9)⟩,⟨d 11,none,.mov (.t 0)⟩,⟨d 12,none,.iaddr 1 (.t 11) (kI 0)⟩,⟨d 13,none,.load 1 false (.t 12)⟩,⟨d 14,none,.len (.t 13)⟩,
  ⟨d 15,none,.bin .neq (.t 10) (.t 14)⟩]) (.cond (.t 15) (.seq (.ops [⟨d 2,none,.mov (kI 4)⟩]) .ret) .skip)) (.seq (.ops [⟨d 2,none,.mov (kI 0)⟩]) .ret)))),[(2,none)]⟩
def a328 : AF := ⟨41,(.seq (.ops [⟨d 2,none,.mov (.k (.c (.nils)))⟩]) (.seq (.ops [⟨d 8,none,.mov (.t 0)⟩,⟨d 9,none,.len (.t 8)⟩,⟨d 10,none,.mksl 24 [.nils] (.t 9) (.t 9)⟩,
  ⟨d 3,none,.mov (.t 10)⟩]) (.seq (.seq (.ops [⟨d 11,none,.mov (.t 0)⟩,⟨d 12,none,.len (.t 11)⟩,
  ⟨d 13,none,.mov (kI 0)⟩]) (.block 0 (.loop (.seq (.ops [⟨d 14,none,.bin .lss (.t 13) (.t 12)⟩]) (.seq (.cond (.t 14) .skip (.exit 0)) (.seq (.block 1 (.seq (.ops [⟨d 15,none,.mov (.t 13)⟩,
  ⟨d 16,none,.iaddr 1 (.t 11) (.t 13)⟩,⟨d 17,none,.load 1 false (.t 16)⟩,⟨d 4,none,.mov (.t 15)⟩,⟨d 5,none,.mov (.t 17)⟩]) (.seq (.ops [⟨d 18,none,.mov (.t 5)⟩,
  ⟨d 19,none,.len (.t 18)⟩,
  ⟨d 20,none,.mov (kI 0)⟩]) (.block 2 (.loop (.seq (.ops [⟨d 21,none,.bin .lss (.t 20) (.t 19)⟩]) (.seq (.cond (.t 21) .skip (.exit 2)) (.seq (.block 3 (.seq (.ops [⟨d 22,none,.iaddr 3 (.t 18) (.t 20)⟩,
  ⟨d 23,none,.load 3 true (.t 22)⟩,⟨d 7,none,.alloc [.bool false,.nat 0,.nat 0]⟩,⟨none,none,.store 3 (.t 7) (.t 23)⟩]) (.seq (.seq (.ops [⟨d 24,none,.load 3 true (.t 7)⟩,
  ⟨d 25,none,.call (kF 142) [(.t 24)]⟩,⟨d 26,none,.not (.t 25)⟩]) (.cond (.t 26) (.ops [⟨d 27,none,.build [.bool false,.nat 0,.nat 0] []⟩,
  ⟨none,none,.store 3 (.t 7) (.t 27)⟩]) .skip)) (.drawn (.act [⟨0,[],[],⟨d 28,none,.mov (.t 3)⟩⟩,⟨1,[],[],⟨d 29,none,.mov (.t 4)⟩⟩,⟨2,[],[],⟨d 30,none,.mov (.t 3)⟩⟩,⟨3,[],[],
  ⟨d 31,none,.mov (.t 4)⟩⟩,⟨4,[2,3],[],⟨d 32,none,.iaddr 1 (.t 30) (.t 31)⟩⟩,⟨5,[4],[],⟨d 33,none,.load 1 false (.t 32)⟩⟩,⟨6,[],[],⟨d 34,none,.load 3 true (.t 7)⟩⟩,⟨7,[6],[],
  ⟨d 35,none,.bsl 3 1 [.bool false,.nat 0,.nat 0] [(0,3,(.t 34))]⟩⟩] ⟨8,[5,7],[],⟨d 36,none,.app 33 3 40 (.t 33) (.t 35)⟩⟩ (.act [⟨9,[0,1],[],
  ⟨d 37,none,.iaddr 1 (.t 28) (.t 29)⟩⟩] ⟨10,[9,8],[],
  ⟨none,none,.store 1 (.t 37) (.t 36)⟩⟩ (.fin []))) [[],[],[],[],[3,2],[4,3,2],[],[6],[7,6,5,4,3,2],[8,7,6,5,4,3,2,1,0],[8,7,6,5,4,3,2,1,0,9]] [28,29,30,31,32,33,34,35,36,37])))) (.ops [⟨d 38,none,.bin .add (.t 20) (kI 1)⟩,
  ⟨d 20,none,.mov (.t 38)⟩]))))))))) (.ops [⟨d 39,none,.bin .add (.t 13) (kI 1)⟩,⟨d 13,none,.mov (.t 39)⟩]))))))) (.seq (.ops [⟨d 40,none,.mov (.t 3)⟩,
  ⟨d 2,none,.mov (.t 40)⟩]) .ret)))),[(2,none)]⟩
def a329 : AF := ⟨68,(.seq (.ops [⟨d 2,none,.mov (.k (.c (.nils)))⟩]) (.seq (.ops [⟨d 16,none,.call (kF 162) [(.k (.c (.int .u64 (.ofNat 1))))]⟩,
  ⟨d 3,none,.mov (.t 16)⟩]) (.seq (.seq (.ops [⟨d 17,none,.mov (.t 0)⟩,⟨d 18,none,.len (.t 17)⟩,
  ⟨d 19,none,.mov (kI 0)⟩]) (.block 0 (.loop (.seq (.ops [⟨d 20,none,.bin .lss (.t 19) (.t 18)⟩]) (.seq (.cond (.t 20) .skip (.exit 0)) (.seq (.block 1 (.seq (.ops [⟨d 21,none,.iaddr 3 (.t 17) (.t 19)⟩,
  ⟨d 22,none,.load 3 true (.t 21)⟩,⟨d 5,none,.alloc [.bool false,.nat 0,.nat 0]⟩,⟨none,none,.store 3 (.t 5) (.t 22)⟩]) (.seq (.ops [⟨d 23,none,.load 3 true (.t 5)⟩,
  ⟨d 24,none,.call (kF 350) [(.t 23)]⟩,⟨d 6,none,.mov (.t 24)⟩]) (.seq (.ops [⟨d 26,none,.mov (.t 6)⟩,⟨d 27,none,.mov (.t 3)⟩,⟨d 28,none,.mov (.t 6)⟩,
  ⟨d 29,none,.call (kF 160) [(.t 27),(.t 28)]⟩,⟨d 30,none,.call (kF 161) [(.t 26),(.t 29)]⟩,⟨d 25,none,.mov (.t 30)⟩,⟨d 31,none,.ext 0 (.t 25)⟩,⟨d 32,none,.ext 1 (.t 25)⟩,
  ⟨d 33,none,.ext 2 (.t 25)⟩,⟨d 7,none,.mov (.t 31)⟩,⟨d 8,none,.mov (.t 32)⟩,⟨d 9,none,.mov (.t 33)⟩]) (.ops [⟨d 34,none,.mov (.t 3)⟩,⟨d 35,none,.mov (.t 7)⟩,
  ⟨d 36,none,.call (kF 78) [(.t 34),(.t 35)]⟩,⟨d 3,none,.mov (.t 36)⟩]))))) (.ops [⟨d 37,none,.bin .add (.t 19) (kI 1)⟩,
  ⟨d 19,none,.mov (.t 37)⟩]))))))) (.seq (.ops [⟨d 38,none,.mov (.t 0)⟩,⟨d 39,none,.len (.t 38)⟩,⟨d 40,none,.mksl 24 [.bool false,.nat 0] (.t 39) (.t 39)⟩,
  ⟨d 10,none,.mov (.t 40)⟩]) (.seq (.seq (.ops [⟨d 41,none,.mov (.t 0)⟩,⟨d 42,none,.len (.t 41)⟩,
  ⟨d 43,none,.mov (kI 0)⟩]) (.block 2 (.loop (.seq (.ops [⟨d 44,none,.bin .lss (.t 43) (.t 42)⟩]) (.seq (.cond (.t 44) .skip (.exit 2)) (.seq (.block 3 (.seq (.ops [⟨d 45,none,.mov (.t 43)⟩,
  ⟨d 46,none,.iaddr 3 (.t 41) (.t 43)⟩,⟨d 47,none,.load 3 true (.t 46)⟩,⟨d 12,none,.alloc [.bool false,.nat 0,.nat 0]⟩,⟨d 11,none,.mov (.t 45)⟩,
  ⟨none,none,.store 3 (.t 12) (.t 47)⟩]) (.seq (.ops [⟨d 49,none,.mov (.t 3)⟩,⟨d 50,none,.load 3 true (.t 12)⟩,⟨d 51,none,.call (kF 350) [(.t 50)]⟩,
  ⟨d 52,none,.call (kF 161) [(.t 49),(.t 51)]⟩,⟨d 48,none,.mov (.t 52)⟩,⟨d 53,none,.ext 0 (.t 48)⟩,⟨d 54,none,.ext 1 (.t 48)⟩,⟨d 55,none,.ext 2 (.t 48)⟩,⟨d 13,none,.mov (.t 53)⟩,
  ⟨d 14,none,.mov (.t 54)⟩,⟨d 15,none,.mov (.t 55)⟩]) (.drawn (.act [⟨0,[],[],⟨d 56,none,.mov (.t 10)⟩⟩,⟨1,[],[],⟨d 57,none,.mov (.t 11)⟩⟩,⟨2,[],[],⟨d 58,none,.faddr 0 (.t 12)⟩⟩,
  ⟨3,[2],[],⟨d 59,none,.load 1 false (.t 58)⟩⟩,⟨4,[],[],⟨d 60,none,.faddr 1 (.t 12)⟩⟩,⟨5,[4],[],⟨d 61,none,.load 1 false (.t 60)⟩⟩,⟨6,[],[],⟨d 62,none,.mov (.t 13)⟩⟩] ⟨7,[5,6],[],
  ⟨d 63,none,.call (kF 78) [(.t 61),(.t 62)]⟩⟩ (.act [⟨8,[3,7],[],⟨d 64,none,.build [.bool false,.nat 0] [(0,1,(.t 59)),(1,1,(.t 63))]⟩⟩,⟨9,[0,1],[],
  ⟨d 65,none,.iaddr 2 (.t 56) (.t 57)⟩⟩] ⟨10,[9,8],[],
  ⟨none,none,.store 2 (.t 65) (.t 64)⟩⟩ (.fin []))) [[],[],[],[2],[],[4],[],[6,5,4],[7,6,5,4,3,2],[8,7,6,5,4,3,2,1,0],[8,7,6,5,4,3,2,1,0,9]] [56,57,58,59,60,61,62,63,64,65])))) (.ops [⟨d 66,none,.bin .add (.t 43) (kI 1)⟩,
  ⟨d 43,none,.mov (.t 66)⟩]))))))) (.seq (.ops [⟨d 67,none,.mov (.t 10)⟩,⟨d 2,none,.mov (.t 67)⟩]) .ret)))))),[(2,none)]⟩
def a330 : AF := ⟨19,(.seq (.ops [⟨d 4,none,.mov (kI 0)⟩]) (.seq (.seq (.ops [⟨d 6,none,.mov (.t 0)⟩,⟨d 7,none,.len (.t 6)⟩,
  ⟨d 8,none,.mov (kI 0)⟩]) (.block 0 (.loop (.seq (.ops [⟨d 9,none,.bin .lss (.t 8) (.t 7)⟩]) (.seq (.cond (.t 9) .skip (.exit 0)) (.seq (.block 1 (.seq (.ops [⟨d 10,none,.mov (.t 8)⟩,
  ⟨d 5,none,.mov (.t 10)⟩]) (.seq (.ops [⟨d 11,none,.mov (.t 1)⟩,⟨d 12,none,.mov (.t 0)⟩,⟨d 13,none,.mov (.t 5)⟩,⟨d 14,none,.iaddr 1 (.t 12) (.t 13)⟩,
  ⟨d 15,none,.load 1 false (.t 14)⟩,⟨d 16,none,.call (.t 11) [(.t 15)]⟩]) (.cond (.t 16) (.seq (.ops [⟨d 17,none,.mov (.t 5)⟩,
  ⟨d 4,none,.mov (.t 17)⟩]) .ret) .skip)))) (.ops [⟨d 18,none,.bin .add (.t 8) (kI 1)⟩,
  ⟨d 8,none,.mov (.t 18)⟩]))))))) (.seq (.ops [⟨d 4,none,.mov (.k (.c (.int .i64 (.negSucc 0))))⟩]) .ret))),[(4,none)]⟩
def a331 : AF := ⟨10,(.seq (.ops [⟨d 3,none,.mov (.k (.c (.bool false)))⟩]) (.seq (.ops [⟨d 4,none,.mov (.t 0)⟩,⟨d 5,none,.load 1 false (.t 1)⟩,⟨d 6,none,.iaddr 2 (.t 4) (.t 5)⟩,
  ⟨d 7,none,.faddr 1 (.t 6)⟩,⟨d 8,none,.load 1 false (.t 7)⟩,⟨d 9,none,.bin .neq (.t 8) (.k (.c (.nat 0)))⟩,⟨d 3,none,.mov (.t 9)⟩]) .ret)),[(3,none)]⟩
def a332 : AF := ⟨67,(.seq (.ops [⟨d 5,none,.box (.t 2)⟩]) (.seq (.ops [⟨d 11,none,.mov (.t 0)⟩,⟨d 12,none,.mov (.t 1)⟩,⟨d 13,none,.iaddr 1 (.t 11) (.t 12)⟩,⟨d 14,none,.load 1 false (.t 13)⟩,
  ⟨d 15,none,.mov (.t 1)⟩,⟨d 16,none,.iaddr 2 (.t 14) (.t 15)⟩,⟨d 17,none,.load 2 true (.t 16)⟩,⟨d 6,none,.alloc [.bool false,.nat 0]⟩,
  ⟨none,none,.store 2 (.t 6) (.t 17)⟩]) (.seq (.ops [⟨d 18,none,.mov (.t 0)⟩,⟨d 19,none,.len (.t 18)⟩,
  ⟨d 20,none,.mov (kI 0)⟩]) (.block 0 (.loop (.seq (.ops [⟨d 21,none,.bin .lss (.t 20) (.t 19)⟩]) (.seq (.cond (.t 21) .skip (.exit 0)) (.seq (.block 1 (.seq (.ops [⟨d 22,none,.mov (.t 20)⟩,
  ⟨d 23,none,.iaddr 1 (.t 18) (.t 20)⟩,⟨d 24,none,.load 1 false (.t 23)⟩,⟨d 7,none,.mov (.t 22)⟩,⟨d 8,none,.mov (.t 24)⟩]) (.seq (.seq (.ops [⟨d 25,none,.mov (.t 7)⟩,
  ⟨d 26,none,.mov (.t 1)⟩,⟨d 27,none,.bin .eql (.t 25) (.t 26)⟩]) (.cond (.t 27) (.exit 1) .skip)) (.seq (.ops [⟨d 28,none,.mov (.t 8)⟩,⟨d 29,none,.mov (.t 1)⟩,
  ⟨d 30,none,.iaddr 2 (.t 28) (.t 29)⟩,⟨d 31,none,.load 2 true (.t 30)⟩,⟨d 9,none,.alloc [.bool false,.nat 0]⟩,
  ⟨none,none,.store 2 (.t 9) (.t 31)⟩]) (.seq (.seq (.ops [⟨d 32,none,.mov (.t 8)⟩,⟨d 33,none,.len (.t 32)⟩,
  ⟨d 34,none,.mov (kI 0)⟩]) (.block 2 (.loop (.seq (.ops [⟨d 35,none,.bin .lss (.t 34) (.t 33)⟩]) (.seq (.cond (.t 35) .skip (.exit 2)) (.seq (.block 3 (.seq (.ops [⟨d 36,none,.mov (.t 34)⟩,
  ⟨d 10,none,.mov (.t 36)⟩]) (.seq (.ops [⟨d 37,none,.mov (.t 10)⟩,⟨d 38,none,.mov (.t 1)⟩,⟨d 39,none,.bin .neq (.t 37) (.t 38)⟩]) (.cond (.t 39) (.drawn (.act [⟨0,[],[],
  ⟨d 40,none,.mov (.t 8)⟩⟩,⟨1,[],[],⟨d 41,none,.mov (.t 10)⟩⟩,⟨2,[],[],⟨d 42,none,.load 2 true (.t 6)⟩⟩,⟨3,[],[],⟨d 43,none,.mov (.t 8)⟩⟩,⟨4,[],[],⟨d 44,none,.mov (.t 10)⟩⟩,
  ⟨5,[3,4],[],⟨d 45,none,.iaddr 2 (.t 43) (.t 44)⟩⟩,⟨6,[5],[],⟨d 46,none,.load 2 true (.t 45)⟩⟩,⟨8,[],[],⟨d 48,none,.load 2 true (.t 9)⟩⟩,⟨9,[],[],⟨d 49,none,.mov (.t 0)⟩⟩,
  ⟨10,[],[],⟨d 50,none,.mov (.t 1)⟩⟩,⟨11,[9,10],[],⟨d 51,none,.iaddr 1 (.t 49) (.t 50)⟩⟩,⟨12,[11],[],⟨d 52,none,.load 1 false (.t 51)⟩⟩,⟨13,[],[],⟨d 53,none,.mov (.t 10)⟩⟩,
  ⟨14,[12,13],[],⟨d 54,none,.iaddr 2 (.t 52) (.t 53)⟩⟩,⟨15,[14],[],⟨d 55,none,.load 2 true (.t 54)⟩⟩,⟨18,[],[],⟨d 58,none,.load 2 true (.t 5)⟩⟩] ⟨7,[2,6],[],
  ⟨d 47,none,.call (kF 351) [(.t 42),(.t 46)]⟩⟩ (.act [] ⟨16,[8,15],[],⟨d 56,none,.call (kF 351) [(.t 48),(.t 55)]⟩⟩ (.act [] ⟨17,[7,16],[],
  ⟨d 57,none,.call (kF 352) [(.t 47),(.t 56)]⟩⟩ (.act [] ⟨19,[17,18],[],⟨d 59,none,.call (kF 353) [(.t 57),(.t 58)]⟩⟩ (.act [⟨20,[0,1],[],
  ⟨d 60,none,.iaddr 2 (.t 40) (.t 41)⟩⟩] ⟨21,[20,19],[],
  ⟨none,none,.store 2 (.t 60) (.t 59)⟩⟩ (.fin [])))))) [[],[],[],[],[],[4,3],[5,4,3],[6,5,4,3,2],[],[],[],[10,9],[11,10,9],[],[13,12,11,10,9],[14,13,12,11,10,9],[7,6,5,4,3,2,15,14,13,12,11,10,9,8],[16,7,6,5,4,3,2,15,14,13,12,11,10,9,8],[],[17,16,7,6,5,4,3,2,15,14,13,12,11,10,9,8,18],[19,17,16,7,6,5,4,3,2,15,14,13,12,11,10,9,8,18,1,0],[19,17,16,7,6,5,4,3,2,15,14,13,12,11,10,9,8,18,1,0,20]] [40,41,42,43,44,45,46,47,48,49,50,51,52,53,54,55,56,57,58,59,60]) .skip)))) (.ops [⟨d 61,none,.bin .add (.t 34) (kI 1)⟩,
  ⟨d 34,none,.mov (.t 61)⟩]))))))) (.ops [⟨d 62,none,.mov (.t 8)⟩,⟨d 63,none,.mov (.t 1)⟩,⟨d 64,none,.build [.bool false,.nat 0] []⟩,⟨d 65,none,.iaddr 2 (.t 62) (.t 63)⟩,
  ⟨none,none,.store 2 (.t 65) (.t 64)⟩])))))) (.ops [⟨d 66,none,.bin .add (.t 20) (kI 1)⟩,⟨d 20,none,.mov (.t 66)⟩]))))))))),[]⟩
def a334 : AF := ⟨69,(.seq (.ops [⟨d 2,none,.box (.t 0)⟩,⟨d 3,none,.box (.t 1)⟩,⟨d 4,none,.alloc [.bool false,.nat 0,.nat 0]⟩,
  ⟨d 5,none,.mov (.k (.c (.bool false)))⟩]) (.seq (.ops [⟨d 18,none,.faddr 1 (.t 2)⟩,⟨d 19,none,.load 1 false (.t 18)⟩,⟨d 20,none,.load 3 true (.t 3)⟩,
  ⟨d 21,none,.call (kF 354) [(.t 19),(.t 20)]⟩,⟨d 17,none,.mov (.t 21)⟩,⟨d 22,none,.ext 0 (.t 17)⟩,⟨d 23,none,.ext 1 (.t 17)⟩,⟨d 6,none,.alloc [.bool false,.nat 0,.nat 0]⟩,
  ⟨none,none,.store 3 (.t 6) (.t 22)⟩,⟨d 7,none,.mov (.t 23)⟩]) (.seq (.seq (.ops [⟨d 24,none,.mov (.t 7)⟩,
  ⟨d 25,none,.not (.t 24)⟩]) (.cond (.t 25) (.seq (.ops [⟨d 26,none,.build [.bool false,.nat 0,.nat 0] []⟩,⟨none,none,.store 3 (.t 4) (.t 26)⟩,
  ⟨d 5,none,.mov (.k (.c (.bool false)))⟩]) .ret) .skip)) (.seq (.drawn (.act [⟨0,[],[],⟨d 27,none,.load 6 true (.t 2)⟩⟩,⟨1,[],[],⟨d 28,none,.load 3 true (.t 3)⟩⟩,⟨3,[],[],
  ⟨d 30,none,.load 6 true (.t 2)⟩⟩,⟨4,[],[],⟨d 31,none,.load 3 true (.t 3)⟩⟩] ⟨2,[0,1],[],⟨d 29,none,.call (kF 214) [(.t 27),(.t 28)]⟩⟩ (.act [] ⟨5,[3,4],[],
  ⟨d 32,none,.call (kF 232) [(.t 30),(.t 31)]⟩⟩ (.fin [⟨6,[2],[],⟨d 8,none,.mov (.t 29)⟩⟩,⟨7,[5],[],
  ⟨d 9,none,.mov (.t 32)⟩⟩]))) [[],[],[1,0],[],[],[2,1,0,4,3],[2,1,0,5,4,3],[6,2,1,0,5,4,3]] [27,28,29,30,31,32,8,9]) (.seq (.seq (.ops [⟨d 33,none,.faddr 2 (.t 2)⟩,
  ⟨d 34,none,.load 1 false (.t 33)⟩,⟨d 35,none,.len (.t 34)⟩,
  ⟨d 36,none,.mov (kI 0)⟩]) (.block 0 (.loop (.seq (.ops [⟨d 37,none,.bin .lss (.t 36) (.t 35)⟩]) (.seq (.cond (.t 37) .skip (.exit 0)) (.seq (.block 1 (.seq (.ops [⟨d 38,none,.iaddr 2 (.t 34) (.t 36)⟩,
  ⟨d 39,none,.load 2 true (.t 38)⟩,⟨d 11,none,.alloc [.nils,.nils]⟩,⟨none,none,.store 2 (.t 11) (.t 39)⟩]) (.seq (.ops [⟨d 40,none,.load 2 true (.t 11)⟩,⟨d 41,none,.mov (.t 9)⟩,
  ⟨d 42,none,.call (kF 231) [(.t 40),(.t 41)]⟩,⟨d 12,none,.alloc [.bool false,.nat 0,.nat 0]⟩,⟨none,none,.store 3 (.t 12) (.t 42)⟩]) (.seq (.drawn (.act [⟨0,[],[],
  ⟨d 44,none,.faddr 1 (.t 11)⟩⟩,⟨1,[0],[],⟨d 45,none,.load 1 false (.t 44)⟩⟩,⟨2,[],[],⟨d 46,none,.load 2 true (.t 11)⟩⟩,⟨3,[],[],⟨d 47,none,.mov (.t 8)⟩⟩,⟨9,[],[],
  ⟨d 13,none,.alloc [.bool false,.nat 0,.nat 0]⟩⟩] ⟨4,[2,3],[],⟨d 48,none,.call (kF 231) [(.t 46),(.t 47)]⟩⟩ (.act [] ⟨5,[1,4],[],
  ⟨d 49,none,.call (kF 354) [(.t 45),(.t 48)]⟩⟩ (.act [⟨6,[5],[],⟨d 43,none,.mov (.t 49)⟩⟩,⟨7,[6],[],⟨d 50,none,.ext 0 (.t 43)⟩⟩,⟨8,[6],[],
  ⟨d 51,none,.ext 1 (.t 43)⟩⟩] ⟨10,[9,7],[],⟨none,none,.store 3 (.t 13) (.t 50)⟩⟩ (.fin [⟨11,[8],[],
  ⟨d 14,none,.mov (.t 51)⟩⟩])))) [[],[0],[],[],[3,2],[4,3,2,1,0],[5,4,3,2,1,0],[6,5,4,3,2,1,0],[6,5,4,3,2,1,0],[],[9,7,6,5,4,3,2,1,0],[10,9,7,6,5,4,3,2,1,0,8]] [44,45,46,47,48,49,43,50,51,13,14]) (.seq (.ops [⟨d 52,none,.mov (.t 14)⟩,
  ⟨d 53,none,.mov (.t 52)⟩,⟨(some 54),(some (53,true)),.load 3 true (.t 12)⟩,⟨(some 55),(some (53,true)),.call (kF 27) [(.t 54)]⟩,
  ⟨(some 56),(some (53,true)),.bin .gtr (.t 55) (kI 0)⟩,⟨d 57,none,.pick (.t 53) (.t 56) (.k (.c (.bool false)))⟩]) (.cond (.t 57) (.seq (.ops [⟨d 59,none,.load 3 true (.t 13)⟩,
  ⟨d 60,none,.load 3 true (.t 12)⟩,⟨d 61,none,.call (kF 293) [(.t 59),(.t 60)]⟩,⟨d 58,none,.mov (.t 61)⟩,⟨d 62,none,.ext 0 (.t 58)⟩,⟨d 63,none,.ext 1 (.t 58)⟩,
  ⟨d 15,none,.alloc [.bool false,.nat 0,.nat 0]⟩,⟨none,none,.store 3 (.t 15) (.t 62)⟩,⟨d 16,none,.mov (.t 63)⟩]) (.ops [⟨d 64,none,.load 3 true (.t 6)⟩,
  ⟨d 65,none,.load 3 true (.t 15)⟩,⟨d 66,none,.call (kF 267) [(.t 64),(.t 65)]⟩,⟨none,none,.store 3 (.t 6) (.t 66)⟩])) .skip)))))) (.ops [⟨d 67,none,.bin .add (.t 36) (kI 1)⟩,
  ⟨d 36,none,.mov (.t 67)⟩]))))))) (.seq (.ops [⟨d 68,none,.load 3 true (.t 6)⟩,⟨none,none,.store 3 (.t 4) (.t 68)⟩,
  ⟨d 5,none,.mov (.k (.c (.bool true)))⟩]) .ret)))))),[(4,(some (3,true))),(5,none)]⟩
def a335 : AF := ⟨26,(.seq (.ops [⟨d 4,none,.mov (.k (.c (.bool false)))⟩]) (.seq (.seq (.ops [⟨d 6,none,.mov (.t 0)⟩,⟨d 7,none,.len (.t 6)⟩,⟨d 8,none,.mov (.t 1)⟩,⟨d 9,none,.len (.t 8)⟩,
  ⟨d 10,none,.bin .neq (.t 7) (.t 9)⟩]) (.cond (.t 10) (.seq (.ops [⟨d 4,none,.mov (.k (.c (.bool false)))⟩]) .ret) .skip)) (.seq (.seq (.ops [⟨d 11,none,.mov (.t 0)⟩,
  ⟨d 12,none,.len (.t 11)⟩,
  ⟨d 13,none,.mov (kI 0)⟩]) (.block 0 (.loop (.seq (.ops [⟨d 14,none,.bin .lss (.t 13) (.t 12)⟩]) (.seq (.cond (.t 14) .skip (.exit 0)) (.seq (.block 1 (.seq (.ops [⟨d 15,none,.mov (.t 13)⟩,
  ⟨d 5,none,.mov (.t 15)⟩]) (.seq (.drawn (.fin [⟨0,[],[],⟨d 16,none,.mov (.t 0)⟩⟩,⟨1,[],[],⟨d 17,none,.mov (.t 5)⟩⟩,⟨2,[0,1],[],⟨d 18,none,.iaddr 3 (.t 16) (.t 17)⟩⟩,⟨3,[2],[],
  ⟨d 19,none,.load 3 true (.t 18)⟩⟩,⟨4,[],[],⟨d 20,none,.mov (.t 1)⟩⟩,⟨5,[],[],⟨d 21,none,.mov (.t 5)⟩⟩,⟨6,[4,5],[],⟨d 22,none,.iaddr 3 (.t 20) (.t 21)⟩⟩,⟨7,[6],[],
  ⟨d 23,none,.load 3 true (.t 22)⟩⟩,⟨8,[3,7],[],
  ⟨d 24,none,.eqagg false (.t 19) (.t 23)⟩⟩]) [[],[],[1,0],[2,1,0],[],[],[5,4],[6,5,4],[7,6,5,4,3,2,1,0]] [16,17,18,19,20,21,22,23,24]) (.cond (.t 24) (.seq (.ops [⟨d 4,none,.mov (.k (.c (.bool false)))⟩]) .ret) .skip)))) (.ops [⟨d 25,none,.bin .add (.t 13) (kI 1)⟩,
  ⟨d 13,none,.mov (.t 25)⟩]))))))) (.seq (.ops [⟨d 4,none,.mov (.k (.c (.bool true)))⟩]) .ret)))),[(4,none)]⟩
def a348 : AF := ⟨39,(.seq (.ops [⟨d 2,none,.mov (kI 0)⟩]) (.seq (.seq (.ops [⟨d 5,none,.mov (.t 0)⟩,⟨d 6,none,.len (.t 5)⟩,⟨d 7,none,.bin .eql (.t 6) (kI 0)⟩,⟨d 8,none,.mov (.t 7)⟩,
  ⟨(some 9),(some (8,false)),.mov (.t 0)⟩,⟨(some 10),(some (8,false)),.iaddr 1 (.t 9) (kI 0)⟩,⟨(some 11),(some (8,false)),.load 1 false (.t 10)⟩,
  ⟨(some 12),(some (8,false)),.len (.t 11)⟩,⟨(some 13),(some (8,false)),.bin .eql (.t 12) (kI 0)⟩,
  ⟨d 14,none,.pick (.t 8) (.k (.c (.bool true))) (.t 13)⟩]) (.cond (.t 14) (.seq (.ops [⟨d 2,none,.mov (kI 4)⟩]) .ret) .skip)) (.seq (.seq (.ops [⟨d 15,none,.mov (.t 0)⟩,
  ⟨d 16,none,.len (.t 15)⟩,
  ⟨d 17,none,.mov (kI 0)⟩]) (.block 0 (.loop (.seq (.ops [⟨d 18,none,.bin .lss (.t 17) (.t 16)⟩]) (.seq (.cond (.t 18) .skip (.exit 0)) (.seq (.block 1 (.seq (.ops [⟨d 19,none,.iaddr 1 (.t 15) (.t 17)⟩,
  ⟨d 20,none,.load 1 false (.t 19)⟩,⟨d 4,none,.mov (.t 20)⟩]) (.seq (.ops [⟨d 21,none,.mov (.t 4)⟩,⟨d 22,none,.len (.t 21)⟩,⟨d 23,none,.mov (.t 0)⟩,
  ⟨d 24,none,.iaddr 1 (.t 23) (kI 0)⟩,⟨d 25,none,.load 1 false (.t 24)⟩,⟨d 26,none,.len (.t 25)⟩,
  ⟨d 27,none,.bin .neq (.t 22) (.t 26)⟩]) (.cond (.t 27) (.seq (.ops [⟨d 2,none,.mov (kI 4)⟩]) .ret) .skip)))) (.ops [⟨d 28,none,.bin .add (.t 17) (kI 1)⟩,
  ⟨d 17,none,.mov (.t 28)⟩]))))))) (.seq (.seq (.ops [⟨d 29,none,.mov (.t 0)⟩,⟨d 30,none,.len (.t 29)⟩,⟨d 31,none,.bin .gtr (.t 30) (kI 16)⟩,⟨d 32,none,.mov (.t 31)⟩,
  ⟨(some 33),(some (32,false)),.mov (.t 0)⟩,⟨(some 34),(some (32,false)),.iaddr 1 (.t 33) (kI 0)⟩,⟨(some 35),(some (32,false)),.load 1 false (.t 34)⟩,
  ⟨(some 36),(some (32,false)),.len (.t 35)⟩,⟨(some 37),(some (32,false)),.bin .gtr (.t 36) (kI 16)⟩,
  ⟨d 38,none,.pick (.t 32) (.k (.c (.bool true))) (.t 37)⟩]) (.cond (.t 38) (.seq (.ops [⟨d 2,none,.mov (kI 2)⟩]) .ret) .skip)) (.seq (.ops [⟨d 2,none,.mov (kI 0)⟩]) .ret))))),[(2,none)]⟩
def a350 : AF := ⟨9,(.seq (.ops [⟨d 1,none,.box (.t 0)⟩,⟨d 2,none,.mov (.k (.c (.nat 0)))⟩]) (.seq (.seq (.ops [⟨d 3,none,.faddr 2 (.t 1)⟩,⟨d 4,none,.load 1 false (.t 3)⟩,
  ⟨d 5,none,.bin .eql (.t 4) (.k (.c (.nat 0)))⟩]) (.cond (.t 5) (.seq (.ops [⟨d 6,none,.call (kF 162) [(.k (.c (.int .u64 (.ofNat 1))))]⟩,
  ⟨d 2,none,.mov (.t 6)⟩]) .ret) .skip)) (.seq (.ops [⟨d 7,none,.faddr 2 (.t 1)⟩,⟨d 8,none,.load 1 false (.t 7)⟩,⟨d 2,none,.mov (.t 8)⟩]) .ret))),[(2,none)]⟩
def a354 : AF := ⟨26,(.seq (.ops [⟨d 3,none,.box (.t 1)⟩,⟨d 4,none,.alloc [.bool false,.nat 0,.nat 0]⟩,⟨d 5,none,.mov (.k (.c (.bool false)))⟩]) (.seq (.ops [⟨d 9,none,.mov (.t 0)⟩,
  ⟨d 10,none,.load 3 true (.t 3)⟩,⟨d 11,none,.call (kF 300) [(.t 9),(.t 10)]⟩,⟨d 8,none,.mov (.t 11)⟩,⟨d 12,none,.ext 0 (.t 8)⟩,⟨d 13,none,.ext 1 (.t 8)⟩,
  ⟨d 7,none,.alloc [.bool false,.nat 0,.nat 0]⟩,⟨d 6,none,.mov (.t 12)⟩,⟨none,none,.store 3 (.t 7) (.t 13)⟩]) (.seq (.seq (.ops [⟨d 14,none,.mov (.t 6)⟩,⟨d 15,none,.mov (.t 0)⟩,
  ⟨d 16,none,.len (.t 15)⟩,⟨d 17,none,.bin .eql (.t 14) (.t 16)⟩]) (.cond (.t 17) (.seq (.ops [⟨d 18,none,.build [.bool false,.nat 0,.nat 0] []⟩,
  ⟨none,none,.store 3 (.t 4) (.t 18)⟩,⟨d 5,none,.mov (.k (.c (.bool false)))⟩]) .ret) .skip)) (.seq (.drawn (.act [⟨0,[],[],⟨d 19,none,.mov (.t 0)⟩⟩,⟨1,[],[],
  ⟨d 20,none,.mov (.t 6)⟩⟩,⟨2,[0,1],[],⟨d 21,none,.iaddr 4 (.t 19) (.t 20)⟩⟩,⟨3,[2],[],⟨d 22,none,.faddr 1 (.t 21)⟩⟩,⟨4,[3],[],⟨d 23,none,.load 3 true (.t 22)⟩⟩,⟨5,[],[],
  ⟨d 24,none,.load 3 true (.t 7)⟩⟩] ⟨6,[4,5],[],⟨d 25,none,.call (kF 20) [(.t 23),(.t 24)]⟩⟩ (.act [] ⟨7,[6],[],⟨none,none,.store 3 (.t 4) (.t 25)⟩⟩ (.fin [⟨8,[],[],
  ⟨d 5,none,.mov (.k (.c (.bool true)))⟩⟩]))) [[],[],[1,0],[2,1,0],[3,2,1,0],[],[5,4,3,2,1,0],[6,5,4,3,2,1,0],[7,6,5,4,3,2,1,0]] [19,20,21,22,23,24,25,5]) .ret)))),[(4,(some (3,true))),(5,none)]⟩
theorem c294 : impF Tryz.prog 294 a294 = true := by kernel_rfl
theorem c300 : impF Tryz.prog 300 a300 = true := by kernel_rfl
theorem c301 : impF Tryz.prog 301 a301 = true := by kernel_rfl
theorem c302 : impF Tryz.prog 302 a302 = true := by kernel_rfl
theorem c327 : impF Tryz.prog 327 a327 = true := by kernel_rfl
theorem c328 : impF Tryz.prog 328 a328 = true := by kernel_rfl
theorem c329 : impF Tryz.prog 329 a329 = true := by kernel_rfl
theorem c330 : impF Tryz.prog 330 a330 = true := by kernel_rfl
theorem c331 : impF Tryz.prog 331 a331 = true := by kernel_rfl
theorem c332 : impF Tryz.prog 332 a332 = true := by kernel_rfl
theorem c334 : impF Tryz.prog 334 a334 = true := by kernel_rfl
theorem c335 : impF Tryz.prog 335 a335 = true := by kernel_rfl
theorem c348 : impF Tryz.prog 348 a348 = true := by kernel_rfl
theorem c350 : impF Tryz.prog 350 a350 = true := by kernel_rfl
theorem c354 : impF Tryz.prog 354 a354 = true := by kernel_rfl
end Go.Proofs.Ex

namespace Go.Proofs.Ex
open Go.Proofs
def fnT : FT := (.node 214 a214 (.node 157 a157 (.node 110 a110 (.node 72 a72 (.node 51 a51 (.node 36 a36 (.node 20 a20 .leaf .leaf) .leaf) (.node 71 a71 (.node 68 a68 .leaf .leaf) .leaf)) (.node 93 a93 (.node 81 a81 (.node 80 a80 .leaf .leaf) .leaf) (.node 101 a101 (.node 96 a96 .leaf .leaf) .leaf))) (.node 129 a129 (.node 122 a122 (.node 113 a113 (.node 111 a111 .leaf .leaf) .leaf) (.node 125 a125 (.node 124 a124 .leaf .leaf) .leaf)) (.node 145 a145 (.node 144 a144 (.node 130 a130 .leaf .leaf) .leaf) (.node 152 a152 (.node 146 a146 .leaf .leaf) .leaf)))) (.node 190 a190 (.node 177 a177 (.node 165 a165 (.node 164 a164 (.node 158 a158 .leaf .leaf) .leaf) (.node 170 a170 (.node 169 a169 .leaf .leaf) .leaf)) (.node 187 a187 (.node 181 a181 (.node 179 a179 .leaf .leaf) .leaf) (.node 189 a189 (.node 188 a188 .leaf .leaf) .leaf))) (.node 196 a196 (.node 193 a193 (.node 192 a192 (.node 191 a191 .leaf .leaf) .leaf) (.node 195 a195 (.node 194 a194 .leaf .leaf) .leaf)) (.node 211 a211 (.node 199 a199 (.node 198 a198 .leaf .leaf) .leaf) (.node 213 a213 .leaf .leaf))))) (.node 284 a284 (.node 240 a240 (.node 223 a223 (.node 219 a219 (.node 217 a217 (.node 215 a215 .leaf .leaf) .leaf) (.node 222 a222 (.node 221 a221 .leaf .leaf) .leaf)) (.node 230 a230 (.node 229 a229 (.node 224 a224 .leaf .leaf) .leaf) (.node 233 a233 (.node 232 a232 .leaf .leaf) .leaf))) (.node 265 a265 (.node 246 a246 (.node 245 a245 (.node 244 a244 .leaf .leaf) .leaf) (.node 264 a264 (.node 263 a263 .leaf .leaf) .leaf)) (.node 272 a272 (.node 268 a268 (.node 266 a266 .leaf .leaf) .leaf) (.node 273 a273 .leaf .leaf)))) (.node 327 a327 (.node 291 a291 (.node 288 a288 (.node 286 a286 (.node 285 a285 .leaf .leaf) .leaf) (.node 290 a290 (.node 289 a289 .leaf .leaf) .leaf)) (.node 300 a300 (.node 294 a294 (.node 292 a292 .leaf .leaf) .leaf) (.node 302 a302 (.node 301 a301 .leaf .leaf) .leaf))) (.node 334 a334 (.node 330 a330 (.node 329 a329 (.node 328 a328 .leaf .leaf) .leaf) (.node 332 a332 (.node 331 a331 .leaf .leaf) .leaf)) (.node 350 a350 (.node 348 a348 (.node 335 a335 .leaf .leaf) .leaf) (.node 354 a354 .leaf .leaf))))))
theorem fnT_ok : fnT.all (impF Tryz.prog) = true := by
  simp only [fnT, FT.all, c20, c36, c51, c68, c71, c72, c80, c81, c93, c96, c101, c110, c111, c113, c122, c124, c125, c129, c130, c144, c145, c146, c152, c157, c158, c164, c165, c169, c170, c177, c179, c181, c187, c188, c189, c190, c191, c192, c193, c194, c195, c196, c198, c199, c211, c213, c214, c215, c217, c219, c221, c222, c223, c224, c229, c230, c232, c233, c240, c244, c245, c246, c263, c264, c265, c266, c268, c272, c273, c284, c285, c286, c288, c289, c290, c291, c292, c294, c300, c301, c302, c327, c328, c329, c330, c331, c332, c334, c335, c348, c350, c354, Bool.and_self]
end Go.Proofs.Ex
