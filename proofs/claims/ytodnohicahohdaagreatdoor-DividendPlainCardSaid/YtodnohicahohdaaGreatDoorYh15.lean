import Derived.Test.YtodnohicahohdaaGreatDoorYh9
set_option linter.all false
set_option maxHeartbeats 8000000
namespace Go.Proofs.Xe
open Go Go.RowKit Go.Proofs.Ins
noncomputable section
def EK:Env:=⟨tF Tryz.prog,λ_ _ _=>none⟩
def isQ(q:Rat):V->Bool
 |.agg [.bool n,.str s,.str d]=>(n==rn q)&&(decide (s=rs q)&&decide (d=rd q))
 |_=>false
def aew(f:Nat)(args:List V)(q:Rat):Bool:=match iD EK 400 f args ⟨.leaf,0⟩with
 |some (v,_)=>isQ q v
 |none=>false
end
set_option maxRecDepth 1000000
set_option maxHeartbeats 8000000
def akI(p:Nat->Bool):Nat->Bool
 |0=>true
 |n+1=>bif p n then akI p n else false
def La{p:Nat->Bool}:∀{n:Nat},akI p n=true->∀i,i<n->p i=true
 |n+1,h,i,hi=>by
  unfold akI at h;cases hp:p n with
  |false=>rw[hp]at h;cases h
  |true=>
   rw[hp]at h
   by_cases e:i=n
   .rw[e];exact hp
   .exact La h i jb
noncomputable def kW:Bool:=akI (λi=>aew 60 [jN i] (((i:Nat):Int):Rat)) 101
noncomputable def kR(j:Nat):Bool:=akI (λi=>aew 74 [jN i,jN (j+1)] ((((i:Nat):Int):Rat)/(((j+1:Nat):Int):Rat))) 23
def aza:kW=true:=by kernel_rfl
def kr0:kR 0=true:=by kernel_rfl
def kr1:kR 1=true:=by kernel_rfl
def kr2:kR 2=true:=by kernel_rfl
def kr3:kR 3=true:=by kernel_rfl
def kr4:kR 4=true:=by kernel_rfl
def kr5:kR 5=true:=by kernel_rfl
def kr7:kR 7=true:=by kernel_rfl
def azb:∀j,j<6\/j=7->kR j=true
 |0,_=>kr0
 |1,_=>kr1
 |2,_=>kr2
 |3,_=>kr3
 |4,_=>kr4
 |5,_=>kr5
 |6,h=>jb
 |7,_=>kr7
 |j+8,h=>jb
end Go.Proofs.Xe
