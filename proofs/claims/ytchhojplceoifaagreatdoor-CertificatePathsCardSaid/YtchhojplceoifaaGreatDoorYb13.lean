import Derived.Shelf.Sort.Plain
import Derived.Shelf.Slices.CompactI
import Derived.Shelf.Slices.In.SortNone
import Derived.Test.YtchhojplceoifaaGreatDoorYb12
import Derived.Lib.SlicesCompact
import Derived.Lib.OwnBridge
set_option linter.all false
set_option maxHeartbeats 8000000
noncomputable section
namespace Go.Proofs
open Go.Shelf
def Tryz.lays189_ren:Go.Shelf.Ren:=⟨λ|189=>182|125=>215|257=>214|128=>227|129=>238|294=>229|295=>230|296=>231|297=>232|298=>233|299=>234|216=>235|300=>236|301=>237|328=>244|329=>245|330=>246|331=>247|332=>248|215=>249|343=>254|n=>n,λ|28=>31|3=>3|46=>73|0=>0|51=>177|53=>178|4=>4|183=>284|182=>283|131=>289|5=>5|9=>9|218=>295|222=>299|228=>307|229=>308|n=>n,λ|n=>n⟩
def Tryz.lays189:Go.Proofs.Lays.n189 Tryz.prog Tryz.lays189_ren:={
 mixed:=by kernel_rfl
 f125:=Tryz.func215.trans (bB some (by kernel_rfl))
 f128:=Tryz.func227.trans (bB some (by kernel_rfl))
 f129:=Tryz.func238.trans (bB some (by kernel_rfl))
 f189:=Tryz.func182.trans (bB some (by kernel_rfl))
 f215:=Tryz.func249.trans (bB some (by kernel_rfl))
 f216:=Tryz.func235.trans (bB some (by kernel_rfl))
 f257:=Tryz.func214.trans (bB some (by kernel_rfl))
 f294:=Tryz.func229.trans (bB some (by kernel_rfl))
 f295:=Tryz.func230.trans (bB some (by kernel_rfl))
 f296:=Tryz.func231.trans (bB some (by kernel_rfl))
 f297:=Tryz.func232.trans (bB some (by kernel_rfl))
 f298:=Tryz.func233.trans (bB some (by kernel_rfl))
 f299:=Tryz.func234.trans (bB some (by kernel_rfl))
 f300:=Tryz.func236.trans (bB some (by kernel_rfl))
 f301:=Tryz.func237.trans (bB some (by kernel_rfl))
 f328:=Tryz.func244.trans (bB some (by kernel_rfl))
 f329:=Tryz.func245.trans (bB some (by kernel_rfl))
 f330:=Tryz.func246.trans (bB some (by kernel_rfl))
 f331:=Tryz.func247.trans (bB some (by kernel_rfl))
 f332:=Tryz.func248.trans (bB some (by kernel_rfl))
 f343:=Tryz.func254.trans (bB some (by kernel_rfl))
 t0:=Tryz.underlying0
 a0:=Tryz.isAgg0
 z0:=Tryz.sizeOf0
 v0:=Tryz.zeroValue0
 t3:=Tryz.underlying3
 a3:=Tryz.isAgg3
 z3:=Tryz.sizeOf3
 v3:=Tryz.zeroValue3
 t4:=Tryz.underlying4
 a4:=Tryz.isAgg4
 z4:=Tryz.sizeOf4
 v4:=Tryz.zeroValue4
 t5:=Tryz.underlying5
 a5:=Tryz.isAgg5
 z5:=Tryz.sizeOf5
 v5:=Tryz.zeroValue5
 t9:=Tryz.underlying9
 a9:=Tryz.isAgg9
 z9:=Tryz.sizeOf9
 v9:=Tryz.zeroValue9
 t28:=Tryz.underlying31
 a28:=Tryz.isAgg31
 z28:=Tryz.sizeOf31
 v28:=Tryz.zeroValue31
 t46:=Tryz.underlying73
 a46:=Tryz.isAgg73
 z46:=Tryz.sizeOf73
 v46:=Tryz.zeroValue73
 t51:=Tryz.underlying177
 a51:=Tryz.isAgg177
 z51:=Tryz.sizeOf177
 v51:=Tryz.zeroValue177
 t53:=Tryz.underlying178
 a53:=Tryz.isAgg178
 z53:=Tryz.sizeOf178
 v53:=Tryz.zeroValue178
 t131:=Tryz.underlying289
 a131:=Tryz.isAgg289
 z131:=Tryz.sizeOf289
 v131:=Tryz.zeroValue289
 t182:=Tryz.underlying283
 a182:=Tryz.isAgg283
 z182:=Tryz.sizeOf283
 v182:=Tryz.zeroValue283
 t183:=Tryz.underlying284
 a183:=Tryz.isAgg284
 z183:=Tryz.sizeOf284
 v183:=Tryz.zeroValue284
 t218:=Tryz.underlying295
 a218:=Tryz.isAgg295
 z218:=Tryz.sizeOf295
 v218:=Tryz.zeroValue295
 t222:=Tryz.underlying299
 a222:=Tryz.isAgg299
 z222:=Tryz.sizeOf299
 v222:=Tryz.zeroValue299
 t228:=Tryz.underlying307
 a228:=Tryz.isAgg307
 z228:=Tryz.sizeOf307
 v228:=Tryz.zeroValue307
 t229:=Tryz.underlying308
 a229:=Tryz.isAgg308
 z229:=Tryz.sizeOf308
 v229:=Tryz.zeroValue308 }
open Go.Sort Go.RowKit in
def Tryz.slices_Sort_int(blk off cap:Nat)(zs:List Int)(w:World)(hH:Holds (Value.int .i64) w blk off zs.toArray)(hblk:blk<w.heap.size)(hsz:zs.length<4611686018427387904):
  Calls Tryz.prog 182 #[.slice (some ⟨blk,off,none⟩) zs.length cap] w λe w'=>
   e=.returned (.tuple #[])/\∃n os,w'=grow (putRow (Value.int .i64) (Sort.ahead w n) blk off (zs.mergeSort λx y=>decide (x<=y)).toArray) os:=Any.slices_Sort_int Tryz.lays189 blk off cap zs w hH hblk hsz
open Go.RowKit Go.Sort in
def Tryz.slices_Sort_int_none(p:Option Addr)(cap:Nat)(w:World):
  Calls Tryz.prog 182 #[.slice p 0 cap] w λe w'=>e=.returned (.tuple #[])/\w'=w:=Any.slices_Sort_int_none Tryz.lays189 p cap w
def Tryz.laysNm220_ren:Go.Shelf.Ren:=⟨λ|20=>183|n=>n,λ|22=>31|3=>3|4=>4|0=>0|n=>n,λ|n=>n⟩
def Tryz.laysNm220:Go.Proofs.Lays2.n20 Tryz.prog Tryz.laysNm220_ren:={
 mixed:=by kernel_rfl
 f20:=Tryz.func183.trans (bB some (by kernel_rfl))
 t0:=Tryz.underlying0
 a0:=Tryz.isAgg0
 z0:=Tryz.sizeOf0
 v0:=Tryz.zeroValue0
 t3:=Tryz.underlying3
 a3:=Tryz.isAgg3
 z3:=Tryz.sizeOf3
 v3:=Tryz.zeroValue3
 t4:=Tryz.underlying4
 a4:=Tryz.isAgg4
 z4:=Tryz.sizeOf4
 v4:=Tryz.zeroValue4
 t22:=Tryz.underlying31
 a22:=Tryz.isAgg31
 z22:=Tryz.sizeOf31
 v22:=Tryz.zeroValue31
 i3:=by kernel_rfl }
open Go.RowKit Go.Lib Go.Sort in
def Tryz.slices_Compact_int(blk off cap:Nat)(zs:List Int)(w:World)(hH:Holds (Value.int .i64) w blk off zs.toArray)(hsz:zs.length<=9223372036854775807)(hcap:zs.length<=cap):
  Calls Tryz.prog 183 #[.slice (some ⟨blk,off,none⟩) zs.length cap] w λe w'=>e=.returned (.slice (some ⟨blk,off,none⟩) (Lib.compact zs).length cap)/\∃q,w'=putRow (Value.int .i64) (Sort.ahead w q) blk off (Lib.compact zs++List.replicate (zs.length-(Lib.compact zs).length) 0).toArray:=Any.slices_Compact_int Tryz.laysNm220 blk off cap zs w hH hsz hcap
open Go.RowKit Go.Lib Go.Sort in
def Tryz.slices_Compact_int_empty(a:Option Addr)(cap:Nat)(w:World):
  Calls Tryz.prog 183 #[.slice a 0 cap] w λe w'=>e=.returned (.slice a 0 cap)/\w'=w:=Any.slices_Compact_int_empty Tryz.laysNm220 a cap w
end Go.Proofs
namespace Go.Proofs.Ins
def wH(a:iG):List Int:=Lib.compact (((a.flatten.map λx=>x.k).filter λx=>x !=-1).mergeSort λx y=>decide (x<=y))
def CZ(d:Array Int)(hs:∀i j,i<=j->j<d.size->d[i]!<=d[j]!):∀m,m<=d.size->(Lib.compactUpTo d m).Pairwise (· < ·)/\∀x∈Lib.compactUpTo d m,0<m/\x<=d[m-1]!
 |0,_=>by unfold Lib.compactUpTo;simp
 |m+1,hm=>by
  obtain⟨h1,h2⟩:=CZ d hs m jb;rw[Lib.compactUpTo_succ];have h3:∀x∈Lib.compactUpTo d m,x<=d[m]!:=λx hx=>by obtain⟨h4,h5⟩:=h2 x hx;have:=hs (m-1) m jb jb;omega
  rw[show m+1-1=m by omega];by_cases hk:Lib.keeps d m=true
  .rw[ab hk];have h6:∀x∈Lib.compactUpTo d m,x<d[m]!:=λx hx=>by
    obtain⟨h4,h5⟩:=h2 x hx;have h7:=hs (m-1) m jb jb;unfold Lib.keeps at hk;have hk:=cM hk;rcases hk with hk|hk
    .omega
    .omega
   refine⟨List.pairwise_append.mpr ⟨h1,List.pairwise_singleton _ _,λx hx y hy=>?_⟩,λx hx=>⟨jb,?_⟩⟩
   .rw[dO]at hy;rw[hy];exact h6 x hx
   .rcases cg.mp hx with hx|hx
    .exact h3 x hx
    .rw[dO]at hx;rw[hx];exact Int.le_refl _
  .rw[ae hk,dw];exact⟨h1,λx hx=>⟨jb,h3 x hx⟩⟩
def ZV{zs:List Int}(hs:zs.Pairwise (·<=·)):(Lib.compact zs).Pairwise (· < ·):=by
 refine(CZ zs.toArray (λi j hij hj=>?_) zs.length kc).1;have hj:j<zs.length:=jb;have hi:i<zs.length:=jb;simp only[List.getElem!_toArray];rw[getElem!_pos zs i hi,getElem!_pos zs j hj];by_cases e:i=j
 .grind
 .exact ja.mp hs i j hi hj jb
theorem mem_compact {zs:List Int} {x:Int} : x∈Lib.compact zs↔x∈zs:=by
 unfold Lib.compact Lib.compactUpTo
 rw [List.mem_map]
 constructor
 ·grind
 ·intro hx
  obtain ⟨i,hi,rfl⟩:=List.getElem_of_mem hx
  have : ∀ j,j<zs.length→∃ k,k≤j∧Lib.keeps zs.toArray k=true∧zs.toArray[k]! = zs.toArray[j]!:=by
   intro j
   induction j with
   | zero=>grind[Lib.keeps]
   | succ j ih =>
    grind[Go.Lib.keeps]
  grind
def abI(a:iG):(wH a).Pairwise (· < ·):=by refine ZV ?_;grind[List.pairwise_mergeSort]
def qQ{a:iG}{c:Int}:c∈wH a↔c≠-1/\PN a c=true:=by grind[wH,mem_compact,List.mem_mergeSort,PN,memT]
end Go.Proofs.Ins
namespace Go.Proofs.Ins
open Go.RowKit
def C9{F:Nat->List Value}{sz:Nat}:∀(n:Nat),(∀i,i<n->(F i).length=sz)->((List.range n).flatMap F).length=n*sz
 |0,_=>by simp
 |n+1,h=>by rw[fv,cT,az,C9 n (λi hi=>h i jb)];simp[h n jb,cA]
def cJ(l:List Int)(j:Nat):List Value:=[.int .i64 (l.getD j 0)]
def abJ(l:List Int):(List.range l.length).flatMap (cJ l)=l.map (Value.int .i64):=by
 apply List.ext_getElem?;intro j;by_cases h:j<l.length
 .have:=yC (sz:=1) (F:=cJ l) l.length (λi _=>rfl) j 0 h jb;grind[cJ]
 .rw[List.getElem?_eq_none,List.getElem?_eq_none]
  .simpa using h
  .rw[C9 (sz:=1) l.length (λi _=>rfl)];omega
def al7(l:List Int)(x:Int)(j:Nat)(hj:j<l.length+1):(if j<l.length then cJ l j else [.int .i64 x])=cJ (l++[x]) j:=by grind[cJ]
def Hw{w:World}{base:Nat}{T:TypeId}{v:Value}{l:List Int}:lI w base T 1 v l.length (cJ l)↔w.ownsRow base T 1 v l.length (l.map (Value.int .i64)):=by unfold lI;rw[abJ];exact⟨λh=>h.1,λh=>⟨h,λ_ _=>rfl⟩⟩
def below_grow{B:Nat}{w0 w:World}{os:Array Obj}(h:Below B w0 w)(hB:B<=w.heap.size):Below B w0 (Sort.grow w os):=
 ⟨h.os,h.tape,h.output,by have:=h.size;grind[Sort.grow],λk hk=>by rw[<-h.block k hk];grind[Sort.heap_grow_old]⟩
def ownsRow_grow{w:World}{base:Nat}{T:TypeId}{v:Value}{n:Nat}{xs:List Value}{os:Array Obj}(h:w.ownsRow base T 1 v n xs):(Sort.grow w os).ownsRow base T 1 v n xs:=by
 obtain⟨h1,h2⟩:=h;refine⟨h1,?_⟩;rcases h2 with h2|⟨g,cap,cur,hv,hb,hg,r⟩
 .grind
 .exact .inr ⟨g,cap,cur,hv,hb,by grind[Sort.heap_grow_old],r⟩
def WY{w:World}{base:Nat}{T:TypeId}{sz n:Nat}{F:Nat->List Value}(h:lI w base T sz (.slice none 0 0) n F):n=0:=by obtain⟨⟨-,h1⟩,-⟩:=h;grind
def ahr(w:World)(base:Nat)(v:Value)(l:List Int)(h:lI w base 3 1 v l.length (cJ l))(hb:base<=w.heap.size)(hl:l.length<4611686018427387904):
  Calls Tryz.prog 182 #[v] w λe w'=>e=.returned (.tuple #[])/\∃l':List Int,l'.length=l.length/\(∀x,x∈l'↔x∈l)/\lI w' base 3 1 v l'.length (cJ l')/\Below base w w'/\l'=l.mergeSort λx y=>decide (x<=y):=by
 by_cases hv:v=.slice none 0 0
 .subst hv
  refine(Tryz.slices_Sort_int_none none 0 w).mono λe w' ⟨he,hw⟩=>⟨he,l,rfl,λ_=>Iff.rfl,by grind,by grind[Below.refl],by rw[fm (WY h)];simp⟩
 .have hr:=Hw.mp h
  obtain⟨g,cap,rfl,h1,h2,h3,h4,h5,h6⟩:=Lib.holds_of_ownsRow hr hv
  refine(Tryz.slices_Sort_int g 0 cap l w h6 h2 hl).mono ?_
  rintro e w' ⟨he,n,os,rfl⟩
  refine⟨he,l.mergeSort λx y=>decide (x<=y),by simp,λx=>List.mem_mergeSort,Hw.mpr ?_,below_grow (Lib.below_putRow (Below.refl base w) h1) (by simp_all),rfl⟩
  refine ownsRow_grow ?_
  have:=Lib.ownsRow_putRow (q:=n) (k:=l.length) (ys:=l.mergeSort λx y=>decide (x<=y)) hr kc jp
  grind[List.length_mergeSort]
def WZ(w:World)(base:Nat)(v:Value)(l:List Int)(h:lI w base 3 1 v l.length (cJ l))(hl:l.length<=9223372036854775807):
  Calls Tryz.prog 183 #[v] w λe w'=>∃v' l',e=.returned v'/\l'.length<=l.length/\(∀x,x∈l'↔x∈l)/\lI w' base 3 1 v' l'.length (cJ l')/\Below base w w'/\l'=Lib.compact l/\(v=.slice none 0 0->v'=.slice none 0 0):=by
 by_cases hv:v=.slice none 0 0
 .subst hv
  refine(Tryz.slices_Compact_int_empty none 0 w).mono λe w' ⟨he,hw⟩=>⟨_,l,he,jp,λ_=>Iff.rfl,by grind,by grind[Below.refl],by rw[fm (WY h)];rfl,λh=>h⟩
 .have hr:=Hw.mp h
  obtain⟨g,cap,rfl,h1,h2,h3,h4,h5,h6⟩:=Lib.holds_of_ownsRow hr hv
  refine(Tryz.slices_Compact_int g 0 cap l w h6 hl h3).mono ?_
  rintro e w' ⟨he,q,rfl⟩
  have hle:=Lib.compact_length_le l
  refine⟨_,Lib.compact l,he,hle,λx=>mem_compact,Hw.mpr ?_,Lib.below_putRow (Below.refl base w) h1,rfl,λh=>absurd h hv⟩
  grind[Lib.ownsRow_putRow,List.take_left]
def mks(l:List AB)(k:Nat):List Int:=((l.take k).map λx=>x.k).filter λx=>x !=-1
def ahs(l:List AB):mks l 0=[]:=by rfl
def al8{l:List AB}{k:Nat}(h:k<l.length)(h2:(ix l k).k≠-1):mks l (k+1)=mks l k++[(ix l k).k]:=by grind[mks,bP]
def arn{l:List AB}{k:Nat}(h:k<l.length)(h2:(ix l k).k=-1):mks l (k+1)=mks l k:=by grind[mks,bP]
def al9(l:List AB)(k:Nat):(mks l k).length<=k:=by grind[Go.Proofs.Ins.mks]
def ama{a:iG}{c:Int}:c∈mks a.flatten a.flatten.length↔c≠-1/\PN a c=true:=by grind[mks,PN,memT]
def auW(w:World)(T:TypeId)(a:iG)(e:Ending)(w':World):Prop:=
 ∃v l,e=.returned v/\l.length<=a.flatten.length/\(∀c,c∈l↔c≠-1/\PN a c=true)/\lI w' w.heap.size T 1 v l.length (cJ l)/\Below w.heap.size w w'/\l=wH a/\(l=[]->v=.slice none 0 0)
set_option maxRecDepth 100000 in
def W9(p:Nat->Prop)(v:Value)(a:iG)(w:World)(hA:xC w p v a)(la:a.length<=140737488351232)(lf:a.flatten.length<=1000000):
  Calls Tryz.prog 140 #[.agg #[v]] w (auW w 3 a):=by
 have HC:=jx (λw' (h:xC w' p v a)=>WX p v a w' h la lf)
 have HA:=jx hA
 have HM:=jx (λc=>ama (a:=a) (c:=c))
 have HY:=jx (λk h h2=>al8 (l:=a.flatten) (k:=k) h h2)
 have HN:=jx (λk h h2=>arn (l:=a.flatten) (k:=k) h h2)
 have HL:=jx (al9 a.flatten)
 have H0:=jx (ahs a.flatten)
 have HML:=jx (show wH a=Lib.compact ((mks a.flatten a.flatten.length).mergeSort λx y=>decide (x<=y)) by unfold wH mks;rw[cB])
 unfold auW
 clear hA
 generalize hmm:mks a.flatten=MK at*
 generalize hfl:a.flatten=fl at*
 clear hmm hfl
 generalize hN:fl.length=N at*
 go_enter Tryz.func140,Tryz.ntmps140
 go_wp2_with fail
 refine(HC.out _ (HA.out.on ((Below.refl _ _).alloc jp _))).mono ?_
 rintro e w1 ⟨v1,rfl,ho1,hb1⟩
 obtain⟨-,HB⟩:=apm hb1
 have HB:=jx HB
 have hz1:=HB.out.size
 have hsl:=ho1.sl
 obtain⟨a1,cap1,rfl,-,-⟩:=hsl.form
 have HSL:=jx hsl
 clear ho1 hb1 hsl HC HA
 go_wp2_with fail
 go_loopw [3,10] (λv i wr=>∃k:Nat,i=.int .i64 k/\k<=N/\lI wr w1.heap.size 3 1 v (MK k).length (cJ (MK k))/\Below w1.heap.size w1 wr/\Hid (MK k=[]->v=.slice none 0 0)) (λ_ i _=>N-(intOf i).toNat)
 case atStart=>exact⟨0,rfl,jb,by rw[H0.out];exact lI.nil _ _ _ _ _,Below.refl _ _,jx λ_=>rfl⟩
 case round=>
  obtain⟨k,rfl,hk,hown,hbel,HNV⟩:=hrel;have HO:=jx hown;have HBR:=jx hbel;have hsz:=hbel.size;by_cases hlt:k<N
  .obtain⟨b,off,rfl,-,-,-⟩:=HSL.out.get jb;have e0:=HSL.out.cellAt rfl hbel (i:=k) (j:=0) hlt jb;have e1:wr.cell? ⟨b,off+k*5+1,none⟩=some (Value.bool (ix fl k).b):=HSL.out.cellAt rfl hbel (i:=k) (j:=1) hlt jb;have e2:wr.cell? ⟨b,off+k*5+2,none⟩=some (Value.bool (ix fl k).a.n):=HSL.out.cellAt rfl hbel (i:=k) (j:=2) hlt jb;have e3:wr.cell? ⟨b,off+k*5+3,none⟩=some (Value.string (ix fl k).a.s):=HSL.out.cellAt rfl hbel (i:=k) (j:=3) hlt jb;have e4:wr.cell? ⟨b,off+k*5+4,none⟩=some (Value.string (ix fl k).a.d):=HSL.out.cellAt rfl hbel (i:=k) (j:=4) hlt jb;rw[cE]at e0;have e0':wr.cell? ⟨b,off+k*5,none⟩=some (Value.int .i64 (ix fl k).k):=e0;have HYK:=jx (HY.out k jb);have HNK:=jx (HN.out k jb);have hlk:=HL.out k;have i1:(0:Int)<=(k:Int):=jb;have i2:(k:Int)<(N:Int):=jb;clear e0 hown hbel HY HN HL HM;generalize auX:MK (k+1)=M1 at*;have HM1:=jx auX;generalize axh:MK k=M0 at*;clear auX axh;generalize (ix fl k).k=x at*;generalize (ix fl k).b=pb at*;generalize (ix fl k).a.n=an at*;generalize (ix fl k).a.s=as' at*;generalize (ix fl k).a.d=ad at*;by_cases hx:x=-1
   .have h1:(x !=-1)=false:=by simp[hx]
    have HX:=jx (HNK.out hx);clear HYK HNK;go_wp2;go_roundw
    case rel=>exact⟨k+1,by go_num,jb,by rw[HM1.out,HX.out];exact HO.out.below ((Below.refl _ _).alloc jp _) jp,HBR.out.alloc jb _,jx λh=>HNV.out (by rwa[HM1.out,HX.out]at h)⟩
    case measure=>simp[intOf];omega
   .have h1:(x !=-1)=true:=by simp[hx]
    have HX:=jx (HYK.out hx);have HO2:=jx (HO.out.below ((Below.refl wr.heap.size wr).alloc jp (.cells #[.int .i64 x,.bool pb,.bool an,.string as',.string ad] 126)) jp);have hz2:(wr.alloc (.cells #[.int .i64 x,.bool pb,.bool an,.string as',.string ad] 126)).heap.size=wr.heap.size+1:=by simp
    clear HYK HNK;go_wp2_with (refine MH _ _ 31 3 1 8 w1.heap.size _ _ _ [.int .i64 x] (by rfl) (by rfl) Tryz.underlying31 akD jb (by rfl) (by rfl) (by simp[Value.oneCell']) (by rw[World.size_alloc];rfl) HO2.out jb jb (by rw[World.size_alloc];omega) ?_;intro v9 w9 ho9 hb9;have HO9:=jx ho9;have HB9:=jx hb9;clear ho9 hb9)
    go_roundw
    case rel=>
     refine⟨k+1,by go_num,jb,?_,(HBR.out.alloc jb _).trans HB9.out,jx λh=>by rw[HM1.out,HX.out]at h;simp at h⟩;rw[HM1.out,HX.out,az];exact HO9.out.congr λj hj=>al7 _ _ j hj
    case measure=>simp[intOf];omega
  .obtain rfl:k=N:=jb;have hnl:decide ((k:Int)<(k:Int))=false:=by simp
   have hlk:=HL.out k;have HST:=jx (ahr wr w1.heap.size u3 (MK k) hown jb jb);go_wp2_with fail;refine HST.out.mono ?_;rintro e w2 ⟨rfl,l2,hl2,hm2,ho2,hb2,hs2⟩;have HCP:=jx (WZ w2 w1.heap.size u3 l2 ho2 jb);have HB2:=jx (HBR.out.trans hb2);have HM2:=jx hm2;have HS2:=jx hs2;clear ho2 hb2 HST hm2 hown hbel hs2;go_wp2_with fail;refine HCP.out.mono ?_;rintro e w3 ⟨v3,l3,rfl,hl3,hm3,ho3,hb3,hc3,hn3⟩;have HO3:=jx ho3;have HM3:=jx hm3;have HB3:=jx (HB2.out.trans hb3);have HC3:=jx hc3;have HN3:=jx hn3;clear ho3 hm3 hb3 hc3 hn3;go_wp2;go_ret;exact⟨_,l3,rfl,jb,λc=>by rw[HM3.out,HM2.out,HM.out],HO3.out.mono jb,chain HB.out HB3.out jp,by rw[HC3.out,HS2.out,HML.out],λh=>HN3.out (HNV.out (List.eq_nil_iff_forall_not_mem.mpr λx hx=>by have:=(HM3.out x).mpr ((HM2.out x).mpr hx);rw[h]at this;cases this))⟩
end Go.Proofs.Ins
namespace Go.Proofs.Xe
open Go.RowKit Go.Proofs.Ins
theorem Xa:∀l:List Int,ones l.length (λi=>B.int .i64 (ix l i))=l.map (B.int .i64)
 |[]=>rfl
 |x::l=>by show [B.int .i64 x]++bU l.length (λi=>[B.int .i64 (ix l i)])=_;have:=Xa l;unfold ones at this;rw[this];rfl
theorem Xb(φ:Ph):∀l:List Int,kF φ (l.map (B.int .i64)) (l.map (Value.int .i64))
 |[]=>trivial
 |_::l=>⟨rfl,Xb φ l⟩
def aht(l:List Int)(σ:St):Option (V×St):=if l.length=0 then some (.c .aX,σ)else some (.c (.sl σ.aj 0 l.length .opn),⟨hset σ.h σ.aj ⟨ones l.length (λi=>.int .i64 (ix l i)),some (1,3)⟩,σ.aj+1⟩)
def abK{φ:Ph}:∀{n:Nat}{G:Nat->List B}{F:Nat->List Value},(∀i,i<n->kF φ (G i) (F i))->kF φ (bU n G) ((List.range n).flatMap F)
 |0,_,_,_=>trivial
 |n+1,G,F,h=>by rw[List.range_succ_eq_map,ik,iz];exact kF.append (h 0 jb) (abK λi hi=>h (i+1) jb)
def ahu(l:List AB)(σ:St):Option (V×St):=if l.length=0 then some (.c .aX,σ)else some (.c (.sl σ.aj 0 l.length .opn),⟨hset σ.h σ.aj ⟨bU l.length λi=>BM (ix l i),some (5,126)⟩,σ.aj+1⟩)
noncomputable section
open Classical in
def ahv(args:List V)(σ:St):Option (V×St):=match args with
 |[.agg [v]]=>if h:∃a,fA (λ_=>True) σ.h v a/\a.length<=1000000/\a.flatten.length<=1000000 then aht (wH (Classical.choose h)) σ else none
 |_=>none
open Classical in
def ahw(args:List V)(σ:St):Option (V×St):=match args with
 |[.c v]=>if h:∃a,fA (λ_=>True) σ.h v a/\a.length<=1000000/\a.flatten.length<=1000000 then ahu (Classical.choose h).flatten σ else none
 |_=>none
def ahx(f:Nat)(args:List V)(σ:St):Option (V×St):=
 if f=181 then ahw args σ
 else if f=140 then ahv args σ
 else none
end
def amb{p:Nat->Prop}{σ:St}{v:B}{a:iG}(ha:fA p σ.h v a)(h1:a.length<=1000000)(h2:a.flatten.length<=1000000):ahv [.agg [v]] σ=aht (wH a) σ:=by
 have h:∃a,fA (λ_=>True) σ.h v a/\a.length<=1000000/\a.flatten.length<=1000000:=⟨a,ha.keep (λ_ _=>rfl) λ_ _=>trivial,h1,h2⟩
 unfold ahv;dsimp only;rw[dif_pos h,(Classical.choose_spec h).1.uniq ha]
def ahy{args:List V}{σ σ':St}{v:V}(h:ahv args σ=some (v,σ')):∃t a,args=[.agg [t]]/\aht (wH a) σ=some (v,σ')/\fA (λ_=>True) σ.h t a/\a.length<=1000000/\a.flatten.length<=1000000:=by
 unfold ahv at h;split at h
 .next t=>
  split at h
  .grind
  .cases h
 .cases h
def amc{p:Nat->Prop}{σ:St}{v:B}{a:iG}(ha:fA p σ.h v a)(h1:a.length<=1000000)(h2:a.flatten.length<=1000000):ahw [.c v] σ=ahu a.flatten σ:=by
 have h:∃a,fA (λ_=>True) σ.h v a/\a.length<=1000000/\a.flatten.length<=1000000:=⟨a,ha.keep (λ_ _=>rfl) λ_ _=>trivial,h1,h2⟩
 unfold ahw;dsimp only;rw[dif_pos h,(Classical.choose_spec h).1.uniq ha]
def ahz{args:List V}{σ σ':St}{v:V}(h:ahw args σ=some (v,σ')):∃t a,args=[.c t]/\ahu a.flatten σ=some (v,σ')/\fA (λ_=>True) σ.h t a/\a.length<=1000000/\a.flatten.length<=1000000:=by
 unfold ahw at h;split at h
 .next t=>
  split at h
  .grind
  .cases h
 .cases h
def abL{φ:Ph}{bK:Array Value}{x:V}(h:GH φ [x] bK.toList):∃u,bK= #[u]/\RV φ x u:=by
 obtain⟨l⟩:=bK;match l,h with
 |[u],h=>exact⟨u,rfl,h.1⟩
def amd(f:Nat)(args:List V)(σ:St)(v:V)(σ':St)(h:ahx f args σ=some (v,σ')):okF Tryz.prog f/\∀(N:Nat) (w0:World) (φ:Ph) (w:World) (bK:Array Value),Rel N w0 φ σ w->GH φ args bK.toList->
  Calls Tryz.prog f bK w λe w'=>∃cv,e=.returned cv/\∃φ',Ext σ.aj φ φ'/\Rel N w0 φ' σ' w'/\RV φ' v cv/\σ.aj<=σ'.aj:=by
 unfold ahx at h
 split at h
 .next e=>
  subst e
  obtain⟨t,a,rfl,h3,h1,la,lf⟩:=ahz h
  refine⟨yT (by kernel_rfl),λN w0 φ w bK hR ha=>?_⟩
  obtain⟨u,rfl,hu⟩:=abL ha
  refine(Hu (InW w) u a w (h1.un hR hu) jb lf).mono ?_
  rintro e w' ⟨v',rfl,ho,hb,hz⟩
  generalize a.flatten=l at*
  unfold ahu at h3
  split at h3
  .next h0=>
   cases h3
   exact⟨_,rfl,φ,Ext.refl _ _,hR.below hb,hz h0,jp⟩
  .next h0=>
   cases h3
   obtain⟨⟨-,h4⟩,-⟩:=ho
   rcases h4 with⟨-,h4⟩|⟨c,cap,cur,rfl,hc,hg,hnc,hm,hs,hx⟩
   .omega
   .have hN:σ.new ⟨bU l.length λi=>BM (ix l i),some (5,126)⟩=some (σ.aj,⟨hset σ.h σ.aj ⟨bU l.length λi=>BM (ix l i),some (5,126)⟩,σ.aj+1⟩):=kG _ _
    have hol:(bU l.length λi=>BM (ix l i)).length=l.length*5:=qP λ_=>rfl
    have hcl:c<w'.heap.size:=(eZ.mp hg).1
    refine⟨_,rfl,_,wZ φ σ.aj (c,cap),(hR.below hb).new hN (w':=w') ⟨rfl,rfl,rfl,jp,λ_ _ _=>rfl⟩ (av hR.size hc) hcl (λi p hi _ e=>?_) (.inl ⟨D6 jj,cur,126,hg,?_,?_,λe t he=>?_⟩),.inl ⟨(c,cap),cap,gZ _ _ _,rfl,hnc,?_,rfl,rfl⟩,by simp⟩
    .have:=hR.lo i p hi
     omega
    .show kF φ (bU l.length λi=>BM (ix l i)) (cur.toList.take (bU l.length λi=>BM (ix l i)).length)
     rw[hol,hx]
     exact abK λi _=>⟨rfl,rfl,rfl,rfl,rfl,trivial⟩
    .grind
    .grind
    grind[maxLen]
 .split at h
  .next e=>
   subst e
   obtain⟨t,a,rfl,h3,h1,la,lf⟩:=ahy h
   refine⟨yT (by kernel_rfl),λN w0 φ w bK hR ha=>?_⟩
   obtain⟨u,rfl,hu⟩:=abL ha
   obtain⟨r,rfl,hr⟩:=hu
   obtain⟨rl⟩:=r
   match rl,hr with
   |[tv],⟨ht,_⟩=>
    refine(W9 (InW w) tv a w (h1.un hR ht) jb lf).mono ?_
    rintro e w' ⟨v',l,rfl,-,-,ho,hb,hl,hn⟩
    rw[<-hl]at h3
    unfold aht at h3
    split at h3
    .next h0=>
     cases h3
     exact⟨_,rfl,φ,Ext.refl _ _,hR.below hb,hn (fm h0),jp⟩
    .next h0=>
     cases h3
     obtain⟨⟨-,h4⟩,-⟩:=ho
     rcases h4 with⟨-,h4⟩|⟨c,cap,cur,rfl,hc,hg,hnc,hm,hs,hx⟩
     .omega
     .have hN:σ.new ⟨ones l.length (λi=>.int .i64 (ix l i)),some (1,3)⟩=some (σ.aj,⟨hset σ.h σ.aj ⟨ones l.length (λi=>.int .i64 (ix l i)),some (1,3)⟩,σ.aj+1⟩):=kG _ _
      rw[abJ,fT]at hx
      have hol:(ones l.length λi=>B.int .i64 (ix l i)).length=l.length:=by grind[NI]
      have hcl:c<w'.heap.size:=(eZ.mp hg).1
      refine⟨_,rfl,_,wZ φ σ.aj (c,cap),(hR.below hb).new hN (w':=w') ⟨rfl,rfl,rfl,jp,λ_ _ _=>rfl⟩ (av hR.size hc) hcl (λi p hi _ e=>?_) (.inl ⟨D6 jj,cur,3,hg,?_,?_,λe t he=>?_⟩),.inl ⟨(c,cap),cap,gZ _ _ _,rfl,hnc,?_,rfl,rfl⟩,by simp⟩
      .have:=hR.lo i p hi
       omega
      .grind[Xa,Xb]
      .grind
      .grind
      grind[maxLen]
  .cases h
def ame(f:Nat)(args:List V)(σ:St):Option (V×St):=ahx f args σ
def amf(f:Nat)(args:List V)(σ:St)(v:V)(σ':St)(h:ame f args σ=some (v,σ')):okF Tryz.prog f/\∀(N:Nat) (w0:World) (φ:Ph) (w:World) (bK:Array Value),Rel N w0 φ σ w->GH φ args bK.toList->
  Calls Tryz.prog f bK w λe w'=>∃cv,e=.returned cv/\∃φ',Ext σ.aj φ φ'/\Rel N w0 φ' σ' w'/\RV φ' v cv/\σ.aj<=σ'.aj:=amd f args σ v σ' h
abbrev amg:List Nat:=[114
 ,61
 ,111
 ,62
 ,119
 ,112
 ,120
 ,121
 ,66
 ,23
 ,21
 ,63
 ,113
 ,59
 ,64
 ,196
 ,65
 ,19
 ,60
 ,20
 ,68
 ,58
 ,17
 ,24
 ,25
 ,157
 ,18
 ,184
 ,91
 ]
def aeh:Nat->List V->St->Option (V×St):=(Eb amg).VU
def abM{f:Nat}(h:amg.contains f=false)(args:List V)(σ:St):aeh f args σ=none:=by unfold aeh Eb;dsimp only;rw[h];rfl
class auY (E:Env):Prop where
 o:∀f args σ r,aeh f args σ=some r->E.VU f args σ=some r
instance {E:Env}{f:Nat} [h:auY E] [m:Mm f amg]:jK E f:=⟨λargs v σ hv=>h.o f args σ _ (by unfold aeh;exact jK.o (E:=Eb amg) args v σ hv)⟩
def amh(f:Nat):Prop:=okF Tryz.prog f/\∀w,Calls Tryz.prog f #[] w λe w'=>e=.returned (.bool true)/\Below w.heap.size w w'
def awN:List Nat:=[
 1000000]
noncomputable section
open Classical in
def auZ(f:Nat)(args:List V)(σ:St):Option (V×St):=bif awN.contains f then(match args with|[]=>if amh f then some (.c (.bool true),σ)else none|_=>none)else none
def Xc(f:Nat)(args:List V)(σ:St):Option (V×St):=match aeh f args σ with
 |some r=>some r
 |none=>match ame f args σ with
  |some r=>some r
  |none=>auZ f args σ
end
class ZW (E:Env):Prop where
 a:∀f args σ r,Xc f args σ=some r->E.VU f args σ=some r
instance {E:Env} [h:ZW E]:auY E:=⟨λf args σ r hv=>h.a f args σ r (by unfold Xc;rw[hv])⟩
def QN{E:Env}[hE:ZW E]{f:Nat}{args:List V}{v:V}{σ σ2:St}{K:V->St->Prop}(h:Xc f args σ=some (v,σ2)):aC E f args σ K=K v σ2:=by
 refine propext ⟨λ⟨n,v',σ',h1,h2⟩=>?_,λhk=>WB (hE.a f args σ _ h) hk⟩;have h3:jc E 1 f args σ=some (v,σ2):=by rw[jc];unfold Gz;rw[hE.a f args σ _ h]
 have a:=nK (show n<=n+1 by omega) f args σ _ h1;have b:=nK (show 1<=n+1 by omega) f args σ _ h3;rw[a]at b;cases b;exact h2
section
variable {E:Env} [ZW E] {σ:St} {K:V→St→Prop}
end
end Go.Proofs.Xe
namespace Go.Proofs.Xe
open Go.Proofs
set_option maxRecDepth 1000000
set_option maxHeartbeats 8000000
def EN:Env:=⟨tF Tryz.prog,Xc⟩
instance ayP:ZW EN:=⟨λ_ _ _ _ h=>h⟩
structure iY(k:Nat) where
 a:AF
 g:tG Tryz.prog k=some a:=by conv=>(lhs;reduce;simp only[aoy])
 i:Wp Tryz.prog k a=true:=by kernel_rfl
 o:∀args σ,EN.VU k args σ=none:=by exact λ_ _=>rfl
def iY.h{k:Nat}(b:iY k):EN.fns k=some b.a:=aox b.g b.i
def lM:iY 4:=.mk _
def FH:iY 10:=.mk _
def pV:iY 11:=.mk _
def sV:iY 12:=.mk _
def Dc:iY 13:=.mk _
def oC:iY 15:=.mk _
def pW:iY 16:=.mk _
def FI:iY 39:=.mk _
def NM:iY 40:=.mk _
def oD:iY 41:=.mk _
def qU:iY 42:=.mk _
def sW:iY 43:=.mk _
def jR:iY 44:=.mk _
def kK:iY 45:=.mk _
def AL:iY 46:=.mk _
def bI:iY 47:=.mk _
def mV:iY 48:=.mk _
def dJ:iY 49:=.mk _
def mW:iY 50:=.mk _
def xE:iY 51:=.mk _
def oG:iY 52:=.mk _
def pX:iY 53:=.mk _
def sZ:iY 54:=.mk _
def jD:iY 55:=.mk _
def lN:iY 56:=.mk _
def tq:iY 57:=.mk _
def Je:iY 80:=.mk _
def FN:iY 81:=.mk _
def bJ:iY 82:=.mk _
def mX:iY 83:=.mk _
def qV:iY 84:=.mk _
def mY:iY 85:=.mk _
def uZ:iY 86:=.mk _
def iO:iY 87:=.mk _
def jo:iY 88:=.mk _
def jS:iY 89:=.mk _
def jT:iY 90:=.mk _
def oH:iY 92:=.mk _
def vg:iY 93:=.mk _
def tu:iY 94:=.mk _
def jU:iY 95:=.mk _
def qW:iY 96:=.mk _
def lQ:iY 97:=.mk _
def lS:iY 98:=.mk _
def vk:iY 99:=.mk _
def jE:iY 100:=.mk _
def tH:iY 101:=.mk _
def cO:iY 102:=.mk _
def kL:iY 103:=.mk _
def pY:iY 104:=.mk _
def qX:iY 105:=.mk _
def vw:iY 106:=.mk _
def qY:iY 107:=.mk _
def jV:iY 108:=.mk _
def xG:iY 109:=.mk _
def jF:iY 110:=.mk _
def jq:iY 139:=.mk _
def qc:iY 141:=.mk _
def nN:iY 142:=.mk _
def vC:iY 143:=.mk _
def kM:iY 144:=.mk _
def lT:iY 145:=.mk _
def lU:iY 146:=.mk _
def iq:iY 147:=.mk _
def jG:iY 148:=.mk _
def oI:iY 149:=.mk _
def tJ:iY 150:=.mk _
def vF:iY 151:=.mk _
def xH:iY 152:=.mk _
def qZ:iY 153:=.mk _
def fE:iY 154:=.mk _
def xI:iY 155:=.mk _
def ji:iY 156:=.mk _
def kN:iY 158:=.mk _
def jW:iY 159:=.mk _
def jX:iY 160:=.mk _
def fC:iY 179:=.mk _
def jd:iY 180:=.mk _
def jY:iY 185:=.mk _
def fU:iY 186:=.mk _
def jZ:iY 187:=.mk _
def vG:iY 188:=.mk _
def jr:iY 189:=.mk _
def vH:iY 190:=.mk _
def xJ:iY 191:=.mk _
def ru:iY 192:=.mk _
def dS:iY 193:=.mk _
def tK:iY 194:=.mk _
def qg:iY 195:=.mk _
def kS:iY 197:=.mk _
def iP:iY 198:=.mk _
def fZ:iY 212:=.mk _
def xK:iY 216:=.mk _
def vI:iY 217:=.mk _
def kT:iY 218:=.mk _
def nO:iY 219:=.mk _
def lV:iY 220:=.mk _
def lW:iY 221:=.mk _
def mZ:iY 222:=.mk _
def lX:iY 223:=.mk _
def xM:iY 239:=.mk _
def gK:iY 240:=.mk _
def xO:iY 241:=.mk _
end Go.Proofs.Xe
end
