import Derived.Shelf.Sort.Plain
import Derived.Shelf.Slices.CompactI
import Derived.Shelf.Slices.In.SortNone
import Derived.Test.YthkggcakedkboaaGreatDoorZ12
import Derived.Lib.SlicesCompact
import Derived.Lib.OwnBridge
set_option linter.all false
set_option maxHeartbeats 8000000
noncomputable section
namespace Go.Proofs
open Go.Shelf
def Tryz.lays189_ren:Go.Shelf.Ren:=⟨λ|189=>134|125=>174|257=>173|128=>186|129=>203|294=>194|295=>195|296=>196|297=>197|298=>198|299=>199|216=>200|300=>201|301=>202|328=>214|329=>215|330=>216|331=>217|332=>218|215=>219|343=>226|n=>n,λ|28=>127|3=>3|46=>94|0=>0|51=>142|53=>143|4=>4|183=>259|182=>258|131=>264|5=>5|9=>9|218=>274|222=>278|228=>287|229=>288|n=>n,λ|n=>n⟩
def Tryz.lays189:Go.Proofs.Lays.n189 Tryz.prog Tryz.lays189_ren:={
 mixed:=by kernel_rfl
 f125:=Tryz.func174.trans (bL some (by kernel_rfl))
 f128:=Tryz.func186.trans (bL some (by kernel_rfl))
 f129:=Tryz.func203.trans (bL some (by kernel_rfl))
 f189:=Tryz.func134.trans (bL some (by kernel_rfl))
 f215:=Tryz.func219.trans (bL some (by kernel_rfl))
 f216:=Tryz.func200.trans (bL some (by kernel_rfl))
 f257:=Tryz.func173.trans (bL some (by kernel_rfl))
 f294:=Tryz.func194.trans (bL some (by kernel_rfl))
 f295:=Tryz.func195.trans (bL some (by kernel_rfl))
 f296:=Tryz.func196.trans (bL some (by kernel_rfl))
 f297:=Tryz.func197.trans (bL some (by kernel_rfl))
 f298:=Tryz.func198.trans (bL some (by kernel_rfl))
 f299:=Tryz.func199.trans (bL some (by kernel_rfl))
 f300:=Tryz.func201.trans (bL some (by kernel_rfl))
 f301:=Tryz.func202.trans (bL some (by kernel_rfl))
 f328:=Tryz.func214.trans (bL some (by kernel_rfl))
 f329:=Tryz.func215.trans (bL some (by kernel_rfl))
 f330:=Tryz.func216.trans (bL some (by kernel_rfl))
 f331:=Tryz.func217.trans (bL some (by kernel_rfl))
 f332:=Tryz.func218.trans (bL some (by kernel_rfl))
 f343:=Tryz.func226.trans (bL some (by kernel_rfl))
 t0:=Tryz.underlying0
 a0:=Tryz.isAgg0
 z0:=Tryz.sizeOf0
 v0:=Tryz.zeroValue0
 t3:=Tryz.underlying3
 a3:=Tryz.isAgg3
 z3:=Tryz.sizeOf3
 v3:=Tryz.zeroValue3
 t4:=Tryz.underlying4
 a4:=Tryz.isAgg4
 z4:=Tryz.sizeOf4
 v4:=Tryz.zeroValue4
 t5:=Tryz.underlying5
 a5:=Tryz.isAgg5
 z5:=Tryz.sizeOf5
 v5:=Tryz.zeroValue5
 t9:=Tryz.underlying9
 a9:=Tryz.isAgg9
 z9:=Tryz.sizeOf9
 v9:=Tryz.zeroValue9
 t28:=Tryz.underlying127
 a28:=Tryz.isAgg127
 z28:=Tryz.sizeOf127
 v28:=Tryz.zeroValue127
 t46:=Tryz.underlying94
 a46:=Tryz.isAgg94
 z46:=Tryz.sizeOf94
 v46:=Tryz.zeroValue94
 t51:=Tryz.underlying142
 a51:=Tryz.isAgg142
 z51:=Tryz.sizeOf142
 v51:=Tryz.zeroValue142
 t53:=Tryz.underlying143
 a53:=Tryz.isAgg143
 z53:=Tryz.sizeOf143
 v53:=Tryz.zeroValue143
 t131:=Tryz.underlying264
 a131:=Tryz.isAgg264
 z131:=Tryz.sizeOf264
 v131:=Tryz.zeroValue264
 t182:=Tryz.underlying258
 a182:=Tryz.isAgg258
 z182:=Tryz.sizeOf258
 v182:=Tryz.zeroValue258
 t183:=Tryz.underlying259
 a183:=Tryz.isAgg259
 z183:=Tryz.sizeOf259
 v183:=Tryz.zeroValue259
 t218:=Tryz.underlying274
 a218:=Tryz.isAgg274
 z218:=Tryz.sizeOf274
 v218:=Tryz.zeroValue274
 t222:=Tryz.underlying278
 a222:=Tryz.isAgg278
 z222:=Tryz.sizeOf278
 v222:=Tryz.zeroValue278
 t228:=Tryz.underlying287
 a228:=Tryz.isAgg287
 z228:=Tryz.sizeOf287
 v228:=Tryz.zeroValue287
 t229:=Tryz.underlying288
 a229:=Tryz.isAgg288
 z229:=Tryz.sizeOf288
 v229:=Tryz.zeroValue288 }
open Go.Sort Go.RowKit in
def Tryz.slices_Sort_int(blk off cap:Nat)(zs:List Int)(w:World)(hH:Holds (Value.int .i64) w blk off zs.toArray)(hblk:blk<w.heap.size)(hsz:zs.length<4611686018427387904):
  Calls Tryz.prog 134 #[.slice (some ⟨blk,off,none⟩) zs.length cap] w λe w'=>
   e=.returned (.tuple #[])/\∃n os,w'=grow (putRow (Value.int .i64) (Sort.ahead w n) blk off (zs.mergeSort λx y=>decide (x<=y)).toArray) os:=Any.slices_Sort_int Tryz.lays189 blk off cap zs w hH hblk hsz
open Go.RowKit Go.Sort in
def Tryz.slices_Sort_int_none(p:Option Addr)(cap:Nat)(w:World):
  Calls Tryz.prog 134 #[.slice p 0 cap] w λe w'=>e=.returned (.tuple #[])/\w'=w:=Any.slices_Sort_int_none Tryz.lays189 p cap w
def Tryz.laysNm220_ren:Go.Shelf.Ren:=⟨λ|20=>135|n=>n,λ|22=>127|3=>3|4=>4|0=>0|n=>n,λ|n=>n⟩
def Tryz.laysNm220:Go.Proofs.Lays2.n20 Tryz.prog Tryz.laysNm220_ren:={
 mixed:=by kernel_rfl
 f20:=Tryz.func135.trans (bL some (by kernel_rfl))
 t0:=Tryz.underlying0
 a0:=Tryz.isAgg0
 z0:=Tryz.sizeOf0
 v0:=Tryz.zeroValue0
 t3:=Tryz.underlying3
 a3:=Tryz.isAgg3
 z3:=Tryz.sizeOf3
 v3:=Tryz.zeroValue3
 t4:=Tryz.underlying4
 a4:=Tryz.isAgg4
 z4:=Tryz.sizeOf4
 v4:=Tryz.zeroValue4
 t22:=Tryz.underlying127
 a22:=Tryz.isAgg127
 z22:=Tryz.sizeOf127
 v22:=Tryz.zeroValue127
 i3:=by kernel_rfl }
open Go.RowKit Go.Lib Go.Sort in
def Tryz.slices_Compact_int(blk off cap:Nat)(zs:List Int)(w:World)(hH:Holds (Value.int .i64) w blk off zs.toArray)(hsz:zs.length<=9223372036854775807)(hcap:zs.length<=cap):
  Calls Tryz.prog 135 #[.slice (some ⟨blk,off,none⟩) zs.length cap] w λe w'=>e=.returned (.slice (some ⟨blk,off,none⟩) (Lib.compact zs).length cap)/\∃q,w'=putRow (Value.int .i64) (Sort.ahead w q) blk off (Lib.compact zs++List.replicate (zs.length-(Lib.compact zs).length) 0).toArray:=Any.slices_Compact_int Tryz.laysNm220 blk off cap zs w hH hsz hcap
open Go.RowKit Go.Lib Go.Sort in
def Tryz.slices_Compact_int_empty(a:Option Addr)(cap:Nat)(w:World):
  Calls Tryz.prog 135 #[.slice a 0 cap] w λe w'=>e=.returned (.slice a 0 cap)/\w'=w:=Any.slices_Compact_int_empty Tryz.laysNm220 a cap w
end Go.Proofs
namespace Go.Proofs.Ins
def vY(a:gZ):List Int:=Lib.compact (((a.flatten.map λx=>x.k).filter λx=>x !=-1).mergeSort λx y=>decide (x<=y))
def CQ(d:Array Int)(hs:∀i j,i<=j->j<d.size->d[i]!<=d[j]!):∀m,m<=d.size->(Lib.compactUpTo d m).Pairwise (· < ·)/\∀x∈Lib.compactUpTo d m,0<m/\x<=d[m-1]!
 |0,_=>by unfold Lib.compactUpTo;simp
 |m+1,hm=>by
  obtain⟨h1,h2⟩:=CQ d hs m jb;rw[Lib.compactUpTo_succ];have h3:∀x∈Lib.compactUpTo d m,x<=d[m]!:=λx hx=>by obtain⟨h4,h5⟩:=h2 x hx;have:=hs (m-1) m jb jb;omega
  rw[show m+1-1=m by omega];by_cases hk:Lib.keeps d m=true
  .rw[ab hk];have h6:∀x∈Lib.compactUpTo d m,x<d[m]!:=λx hx=>by
    obtain⟨h4,h5⟩:=h2 x hx;have h7:=hs (m-1) m jb jb;unfold Lib.keeps at hk;have hk:=dc hk;rcases hk with hk|hk
    .omega
    .omega
   refine⟨List.pairwise_append.mpr ⟨h1,List.pairwise_singleton _ _,λx hx y hy=>?_⟩,λx hx=>⟨jb,?_⟩⟩
   .rw[dT]at hy;rw[hy];exact h6 x hx
   .rcases cf.mp hx with hx|hx
    .exact h3 x hx
    .rw[dT]at hx;rw[hx];exact Int.le_refl _
  .rw[ae hk,dx];exact⟨h1,λx hx=>⟨jb,h3 x hx⟩⟩
def ZJ{zs:List Int}(hs:zs.Pairwise (·<=·)):(Lib.compact zs).Pairwise (· < ·):=by
 refine(CQ zs.toArray (λi j hij hj=>?_) zs.length kc).1;have hj:j<zs.length:=jb;have hi:i<zs.length:=jb;simp only[List.getElem!_toArray];rw[getElem!_pos zs i hi,getElem!_pos zs j hj];by_cases e:i=j
 .grind
 .exact iB.mp hs i j hi hj jb
theorem mem_compact {zs:List Int} {x:Int} : x∈Lib.compact zs↔x∈zs:=by
 unfold Lib.compact Lib.compactUpTo
 rw [List.mem_map]
 constructor
 ·grind
 ·intro hx
  obtain ⟨i,hi,rfl⟩:=List.getElem_of_mem hx
  have : ∀ j,j<zs.length→∃ k,k≤j∧Lib.keeps zs.toArray k=true∧zs.toArray[k]! = zs.toArray[j]!:=by
   intro j
   induction j with
   | zero=>grind[Lib.keeps]
   | succ j ih =>
    grind[Go.Lib.keeps]
  grind
def aby(a:gZ):(vY a).Pairwise (· < ·):=by refine ZJ ?_;grind[List.pairwise_mergeSort]
def qN{a:gZ}{c:Int}:c∈vY a↔c≠-1/\PN a c=true:=by grind[vY,mem_compact,List.mem_mergeSort,PN,memT]
end Go.Proofs.Ins
namespace Go.Proofs.Ins
open Go.RowKit
def CS{F:Nat->List Value}{sz:Nat}:∀(n:Nat),(∀i,i<n->(F i).length=sz)->((List.range n).flatMap F).length=n*sz
 |0,_=>by simp
 |n+1,h=>by rw[fR,cQ,aE,CS n (λi hi=>h i jb)];simp[h n jb,cw]
def cJ(l:List Int)(j:Nat):List Value:=[.int .i64 (l.getD j 0)]
def abz(l:List Int):(List.range l.length).flatMap (cJ l)=l.map (Value.int .i64):=by
 apply List.ext_getElem?;intro j;by_cases h:j<l.length
 .have:=yg (sz:=1) (F:=cJ l) l.length (λi _=>rfl) j 0 h jb;grind[cJ]
 .rw[List.getElem?_eq_none,List.getElem?_eq_none]
  .simpa using h
  .rw[CS (sz:=1) l.length (λi _=>rfl)];omega
def alV(l:List Int)(x:Int)(j:Nat)(hj:j<l.length+1):(if j<l.length then cJ l j else [.int .i64 x])=cJ (l++[x]) j:=by grind[cJ]
def Hz{w:World}{base:Nat}{T:TypeId}{v:Value}{l:List Int}:lH w base T 1 v l.length (cJ l)↔w.ownsRow base T 1 v l.length (l.map (Value.int .i64)):=by unfold lH;rw[abz];exact⟨λh=>h.1,λh=>⟨h,λ_ _=>rfl⟩⟩
def below_grow{B:Nat}{w0 w:World}{os:Array Obj}(h:Below B w0 w)(hB:B<=w.heap.size):Below B w0 (Sort.grow w os):=
 ⟨h.os,h.tape,h.output,by have:=h.size;grind[Sort.grow],λk hk=>by rw[<-h.block k hk];grind[Sort.heap_grow_old]⟩
def ownsRow_grow{w:World}{base:Nat}{T:TypeId}{v:Value}{n:Nat}{xs:List Value}{os:Array Obj}(h:w.ownsRow base T 1 v n xs):(Sort.grow w os).ownsRow base T 1 v n xs:=by
 obtain⟨h1,h2⟩:=h;refine⟨h1,?_⟩;rcases h2 with h2|⟨g,cap,cur,hv,hb,hg,r⟩
 .grind
 .exact .inr ⟨g,cap,cur,hv,hb,by grind[Sort.heap_grow_old],r⟩
def WV{w:World}{base:Nat}{T:TypeId}{sz n:Nat}{F:Nat->List Value}(h:lH w base T sz (.slice none 0 0) n F):n=0:=by obtain⟨⟨-,h1⟩,-⟩:=h;grind
def ahj(w:World)(base:Nat)(v:Value)(l:List Int)(h:lH w base 3 1 v l.length (cJ l))(hb:base<=w.heap.size)(hl:l.length<4611686018427387904):
  Calls Tryz.prog 134 #[v] w λe w'=>e=.returned (.tuple #[])/\∃l':List Int,l'.length=l.length/\(∀x,x∈l'↔x∈l)/\lH w' base 3 1 v l'.length (cJ l')/\Below base w w'/\l'=l.mergeSort λx y=>decide (x<=y):=by
 by_cases hv:v=.slice none 0 0
 .subst hv
  refine(Tryz.slices_Sort_int_none none 0 w).mono λe w' ⟨he,hw⟩=>⟨he,l,rfl,λ_=>Iff.rfl,by grind,by grind[Below.refl],by rw[fj (WV h)];simp⟩
 .have hr:=Hz.mp h
  obtain⟨g,cap,rfl,h1,h2,h3,h4,h5,h6⟩:=Lib.holds_of_ownsRow hr hv
  refine(Tryz.slices_Sort_int g 0 cap l w h6 h2 hl).mono ?_
  rintro e w' ⟨he,n,os,rfl⟩
  refine⟨he,l.mergeSort λx y=>decide (x<=y),by simp,λx=>List.mem_mergeSort,Hz.mpr ?_,below_grow (Lib.below_putRow (Below.refl base w) h1) (by simp_all),rfl⟩
  refine ownsRow_grow ?_
  have:=Lib.ownsRow_putRow (q:=n) (k:=l.length) (ys:=l.mergeSort λx y=>decide (x<=y)) hr kc jp
  grind[List.length_mergeSort]
def WW(w:World)(base:Nat)(v:Value)(l:List Int)(h:lH w base 3 1 v l.length (cJ l))(hl:l.length<=9223372036854775807):
  Calls Tryz.prog 135 #[v] w λe w'=>∃v' l',e=.returned v'/\l'.length<=l.length/\(∀x,x∈l'↔x∈l)/\lH w' base 3 1 v' l'.length (cJ l')/\Below base w w'/\l'=Lib.compact l/\(v=.slice none 0 0->v'=.slice none 0 0):=by
 by_cases hv:v=.slice none 0 0
 .subst hv
  refine(Tryz.slices_Compact_int_empty none 0 w).mono λe w' ⟨he,hw⟩=>⟨_,l,he,jp,λ_=>Iff.rfl,by grind,by grind[Below.refl],by rw[fj (WV h)];rfl,λh=>h⟩
 .have hr:=Hz.mp h
  obtain⟨g,cap,rfl,h1,h2,h3,h4,h5,h6⟩:=Lib.holds_of_ownsRow hr hv
  refine(Tryz.slices_Compact_int g 0 cap l w h6 hl h3).mono ?_
  rintro e w' ⟨he,q,rfl⟩
  have hle:=Lib.compact_length_le l
  refine⟨_,Lib.compact l,he,hle,λx=>mem_compact,Hz.mpr ?_,Lib.below_putRow (Below.refl base w) h1,rfl,λh=>absurd h hv⟩
  grind[Lib.ownsRow_putRow,List.take_left]
def mks(l:List Aq)(k:Nat):List Int:=((l.take k).map λx=>x.k).filter λx=>x !=-1
def ahk(l:List Aq):mks l 0=[]:=by rfl
def alW{l:List Aq}{k:Nat}(h:k<l.length)(h2:(ix l k).k≠-1):mks l (k+1)=mks l k++[(ix l k).k]:=by grind[mks,bJ]
def aqR{l:List Aq}{k:Nat}(h:k<l.length)(h2:(ix l k).k=-1):mks l (k+1)=mks l k:=by grind[mks,bJ]
def alX(l:List Aq)(k:Nat):(mks l k).length<=k:=by grind[Go.Proofs.Ins.mks]
def alY{a:gZ}{c:Int}:c∈mks a.flatten a.flatten.length↔c≠-1/\PN a c=true:=by grind[mks,PN,memT]
def auo(w:World)(T:TypeId)(a:gZ)(e:Ending)(w':World):Prop:=
 ∃v l,e=.returned v/\l.length<=a.flatten.length/\(∀c,c∈l↔c≠-1/\PN a c=true)/\lH w' w.heap.size T 1 v l.length (cJ l)/\Below w.heap.size w w'/\l=vY a/\(l=[]->v=.slice none 0 0)
set_option maxRecDepth 100000 in
def WX(p:Nat->Prop)(v:Value)(a:gZ)(w:World)(hA:wY w p v a)(la:a.length<=140737488351232)(lf:a.flatten.length<=1000000):
  Calls Tryz.prog 91 #[.agg #[v]] w (auo w 3 a):=by
 have HC:=jx (λw' (h:wY w' p v a)=>WU p v a w' h la lf)
 have HA:=jx hA
 have HM:=jx (λc=>alY (a:=a) (c:=c))
 have HY:=jx (λk h h2=>alW (l:=a.flatten) (k:=k) h h2)
 have HN:=jx (λk h h2=>aqR (l:=a.flatten) (k:=k) h h2)
 have HL:=jx (alX a.flatten)
 have H0:=jx (ahk a.flatten)
 have HML:=jx (show vY a=Lib.compact ((mks a.flatten a.flatten.length).mergeSort λx y=>decide (x<=y)) by unfold vY mks;rw[cA])
 unfold auo
 clear hA
 generalize hmm:mks a.flatten=MK at*
 generalize hfl:a.flatten=fl at*
 clear hmm hfl
 generalize hN:fl.length=N at*
 go_enter Tryz.func91,Tryz.ntmps91
 go_wp2_with fail
 refine(HC.out _ (HA.out.on ((Below.refl _ _).alloc jp _))).mono ?_
 rintro e w1 ⟨v1,rfl,ho1,hb1⟩
 obtain⟨-,HB⟩:=aoS hb1
 have HB:=jx HB
 have hz1:=HB.out.size
 have hsl:=ho1.sl
 obtain⟨a1,cap1,rfl,-,-⟩:=hsl.form
 have HSL:=jx hsl
 clear ho1 hb1 hsl HC HA
 go_wp2_with fail
 go_loopw [3,10] (λv i wr=>∃k:Nat,i=.int .i64 k/\k<=N/\lH wr w1.heap.size 3 1 v (MK k).length (cJ (MK k))/\Below w1.heap.size w1 wr/\Hid (MK k=[]->v=.slice none 0 0)) (λ_ i _=>N-(intOf i).toNat)
 case atStart=>exact⟨0,rfl,jb,by rw[H0.out];exact lH.nil _ _ _ _ _,Below.refl _ _,jx λ_=>rfl⟩
 case round=>
  obtain⟨k,rfl,hk,hown,hbel,HNV⟩:=hrel;have HO:=jx hown;have HBR:=jx hbel;have hsz:=hbel.size;by_cases hlt:k<N
  .obtain⟨b,off,rfl,-,-,-⟩:=HSL.out.get jb;have e0:=HSL.out.cellAt rfl hbel (i:=k) (j:=0) hlt jb;have e1:wr.cell? ⟨b,off+k*5+1,none⟩=some (Value.bool (ix fl k).b):=HSL.out.cellAt rfl hbel (i:=k) (j:=1) hlt jb;have e2:wr.cell? ⟨b,off+k*5+2,none⟩=some (Value.bool (ix fl k).a.n):=HSL.out.cellAt rfl hbel (i:=k) (j:=2) hlt jb;have e3:wr.cell? ⟨b,off+k*5+3,none⟩=some (Value.string (ix fl k).a.s):=HSL.out.cellAt rfl hbel (i:=k) (j:=3) hlt jb;have e4:wr.cell? ⟨b,off+k*5+4,none⟩=some (Value.string (ix fl k).a.d):=HSL.out.cellAt rfl hbel (i:=k) (j:=4) hlt jb;rw[cE]at e0;have e0':wr.cell? ⟨b,off+k*5,none⟩=some (Value.int .i64 (ix fl k).k):=e0;have HYK:=jx (HY.out k jb);have HNK:=jx (HN.out k jb);have hlk:=HL.out k;have i1:(0:Int)<=(k:Int):=jb;have i2:(k:Int)<(N:Int):=jb;clear e0 hown hbel HY HN HL HM;generalize aup:MK (k+1)=M1 at*;have HM1:=jx aup;generalize awJ:MK k=M0 at*;clear aup awJ;generalize (ix fl k).k=x at*;generalize (ix fl k).b=pb at*;generalize (ix fl k).a.n=an at*;generalize (ix fl k).a.s=as' at*;generalize (ix fl k).a.d=ad at*;by_cases hx:x=-1
   .have h1:(x !=-1)=false:=by simp[hx]
    have HX:=jx (HNK.out hx);clear HYK HNK;go_wp2;go_roundw
    case rel=>exact⟨k+1,by go_num,jb,by rw[HM1.out,HX.out];exact HO.out.below ((Below.refl _ _).alloc jp _) jp,HBR.out.alloc jb _,jx λh=>HNV.out (by rwa[HM1.out,HX.out]at h)⟩
    case measure=>simp[intOf];omega
   .have h1:(x !=-1)=true:=by simp[hx]
    have HX:=jx (HYK.out hx);have HO2:=jx (HO.out.below ((Below.refl wr.heap.size wr).alloc jp (.cells #[.int .i64 x,.bool pb,.bool an,.string as',.string ad] 97)) jp);have hz2:(wr.alloc (.cells #[.int .i64 x,.bool pb,.bool an,.string as',.string ad] 97)).heap.size=wr.heap.size+1:=by simp
    clear HYK HNK;go_wp2_with (refine Me _ _ 127 3 1 8 w1.heap.size _ _ _ [.int .i64 x] (by rfl) (by rfl) Tryz.underlying127 akr jb (by rfl) (by rfl) (by simp[Value.oneCell']) (by rw[World.size_alloc];rfl) HO2.out jb jb (by rw[World.size_alloc];omega) ?_;intro v9 w9 ho9 hb9;have HO9:=jx ho9;have HB9:=jx hb9;clear ho9 hb9)
    go_roundw
    case rel=>
     refine⟨k+1,by go_num,jb,?_,(HBR.out.alloc jb _).trans HB9.out,jx λh=>by rw[HM1.out,HX.out]at h;simp at h⟩;rw[HM1.out,HX.out,aE];exact HO9.out.congr λj hj=>alV _ _ j hj
    case measure=>simp[intOf];omega
  .obtain rfl:k=N:=jb;have hnl:decide ((k:Int)<(k:Int))=false:=by simp
   have hlk:=HL.out k;have HST:=jx (ahj wr w1.heap.size u3 (MK k) hown jb jb);go_wp2_with fail;refine HST.out.mono ?_;rintro e w2 ⟨rfl,l2,hl2,hm2,ho2,hb2,hs2⟩;have HCP:=jx (WW w2 w1.heap.size u3 l2 ho2 jb);have HB2:=jx (HBR.out.trans hb2);have HM2:=jx hm2;have HS2:=jx hs2;clear ho2 hb2 HST hm2 hown hbel hs2;go_wp2_with fail;refine HCP.out.mono ?_;rintro e w3 ⟨v3,l3,rfl,hl3,hm3,ho3,hb3,hc3,hn3⟩;have HO3:=jx ho3;have HM3:=jx hm3;have HB3:=jx (HB2.out.trans hb3);have HC3:=jx hc3;have HN3:=jx hn3;clear ho3 hm3 hb3 hc3 hn3;go_wp2;go_ret;exact⟨_,l3,rfl,jb,λc=>by rw[HM3.out,HM2.out,HM.out],HO3.out.mono jb,chain HB.out HB3.out jp,by rw[HC3.out,HS2.out,HML.out],λh=>HN3.out (HNV.out (List.eq_nil_iff_forall_not_mem.mpr λx hx=>by have:=(HM3.out x).mpr ((HM2.out x).mpr hx);rw[h]at this;cases this))⟩
end Go.Proofs.Ins
namespace Go.Proofs.Xe
open Go.RowKit Go.Proofs.Ins
theorem WY:∀l:List Int,ones l.length (λi=>B.int .i64 (ix l i))=l.map (B.int .i64)
 |[]=>rfl
 |x::l=>by show [B.int .i64 x]++bM l.length (λi=>[B.int .i64 (ix l i)])=_;have:=WY l;unfold ones at this;rw[this];rfl
theorem WZ(φ:Ph):∀l:List Int,kG φ (l.map (B.int .i64)) (l.map (Value.int .i64))
 |[]=>trivial
 |_::l=>⟨rfl,WZ φ l⟩
def ahl(l:List Int)(σ:St):Option (V×St):=if l.length=0 then some (.c .aW,σ)else some (.c (.sl σ.aj 0 l.length .opn),⟨hset σ.h σ.aj ⟨ones l.length (λi=>.int .i64 (ix l i)),some (1,3)⟩,σ.aj+1⟩)
def abA{φ:Ph}:∀{n:Nat}{G:Nat->List B}{F:Nat->List Value},(∀i,i<n->kG φ (G i) (F i))->kG φ (bM n G) ((List.range n).flatMap F)
 |0,_,_,_=>trivial
 |n+1,G,F,h=>by rw[List.range_succ_eq_map,ii,ir];exact kG.append (h 0 jb) (abA λi hi=>h (i+1) jb)
def ahm(l:List Aq)(σ:St):Option (V×St):=if l.length=0 then some (.c .aW,σ)else some (.c (.sl σ.aj 0 l.length .opn),⟨hset σ.h σ.aj ⟨bM l.length λi=>BF (ix l i),some (5,97)⟩,σ.aj+1⟩)
noncomputable section
open Classical in
def ahn(args:List V)(σ:St):Option (V×St):=match args with
 |[.agg [v]]=>if h:∃a,dX (λ_=>True) σ.h v a/\a.length<=1000000/\a.flatten.length<=1000000 then ahl (vY (Classical.choose h)) σ else none
 |_=>none
open Classical in
def aho(args:List V)(σ:St):Option (V×St):=match args with
 |[.c v]=>if h:∃a,dX (λ_=>True) σ.h v a/\a.length<=1000000/\a.flatten.length<=1000000 then ahm (Classical.choose h).flatten σ else none
 |_=>none
def ahp(f:Nat)(args:List V)(σ:St):Option (V×St):=
 if f=133 then aho args σ
 else if f=91 then ahn args σ
 else none
end
def alZ{p:Nat->Prop}{σ:St}{v:B}{a:gZ}(ha:dX p σ.h v a)(h1:a.length<=1000000)(h2:a.flatten.length<=1000000):ahn [.agg [v]] σ=ahl (vY a) σ:=by
 have h:∃a,dX (λ_=>True) σ.h v a/\a.length<=1000000/\a.flatten.length<=1000000:=⟨a,ha.keep (λ_ _=>rfl) λ_ _=>trivial,h1,h2⟩
 unfold ahn;dsimp only;rw[dif_pos h,(Classical.choose_spec h).1.uniq ha]
def ahq{args:List V}{σ σ':St}{v:V}(h:ahn args σ=some (v,σ')):∃t a,args=[.agg [t]]/\ahl (vY a) σ=some (v,σ')/\dX (λ_=>True) σ.h t a/\a.length<=1000000/\a.flatten.length<=1000000:=by
 unfold ahn at h;split at h
 .next t=>
  split at h
  .grind
  .cases h
 .cases h
def al0{p:Nat->Prop}{σ:St}{v:B}{a:gZ}(ha:dX p σ.h v a)(h1:a.length<=1000000)(h2:a.flatten.length<=1000000):aho [.c v] σ=ahm a.flatten σ:=by
 have h:∃a,dX (λ_=>True) σ.h v a/\a.length<=1000000/\a.flatten.length<=1000000:=⟨a,ha.keep (λ_ _=>rfl) λ_ _=>trivial,h1,h2⟩
 unfold aho;dsimp only;rw[dif_pos h,(Classical.choose_spec h).1.uniq ha]
def ahr{args:List V}{σ σ':St}{v:V}(h:aho args σ=some (v,σ')):∃t a,args=[.c t]/\ahm a.flatten σ=some (v,σ')/\dX (λ_=>True) σ.h t a/\a.length<=1000000/\a.flatten.length<=1000000:=by
 unfold aho at h;split at h
 .next t=>
  split at h
  .grind
  .cases h
 .cases h
def abB{φ:Ph}{bH:Array Value}{x:V}(h:GX φ [x] bH.toList):∃u,bH= #[u]/\RV φ x u:=by
 obtain⟨l⟩:=bH;match l,h with
 |[u],h=>exact⟨u,rfl,h.1⟩
def al1(f:Nat)(args:List V)(σ:St)(v:V)(σ':St)(h:ahp f args σ=some (v,σ')):okF Tryz.prog f/\∀(N:Nat) (w0:World) (φ:Ph) (w:World) (bH:Array Value),Rel N w0 φ σ w->GX φ args bH.toList->
  Calls Tryz.prog f bH w λe w'=>∃cv,e=.returned cv/\∃φ',Ext σ.aj φ φ'/\Rel N w0 φ' σ' w'/\RV φ' v cv/\σ.aj<=σ'.aj:=by
 unfold ahp at h
 split at h
 .next e=>
  subst e
  obtain⟨t,a,rfl,h3,h1,la,lf⟩:=ahr h
  refine⟨yK (by kernel_rfl),λN w0 φ w bH hR ha=>?_⟩
  obtain⟨u,rfl,hu⟩:=abB ha
  refine(Hw (InW w) u a w (h1.un hR hu) jb lf).mono ?_
  rintro e w' ⟨v',rfl,ho,hb,hz⟩
  generalize a.flatten=l at*
  unfold ahm at h3
  split at h3
  .next h0=>
   cases h3
   exact⟨_,rfl,φ,Ext.refl _ _,hR.below hb,hz h0,jp⟩
  .next h0=>
   cases h3
   obtain⟨⟨-,h4⟩,-⟩:=ho
   rcases h4 with⟨-,h4⟩|⟨c,cap,cur,rfl,hc,hg,hnc,hm,hs,hx⟩
   .omega
   .have hN:σ.new ⟨bM l.length λi=>BF (ix l i),some (5,97)⟩=some (σ.aj,⟨hset σ.h σ.aj ⟨bM l.length λi=>BF (ix l i),some (5,97)⟩,σ.aj+1⟩):=jM _ _
    have hol:(bM l.length λi=>BF (ix l i)).length=l.length*5:=qM λ_=>rfl
    have hcl:c<w'.heap.size:=(eZ.mp hg).1
    refine⟨_,rfl,_,wR φ σ.aj (c,cap),(hR.below hb).new hN (w':=w') ⟨rfl,rfl,rfl,jp,λ_ _ _=>rfl⟩ (ap hR.size hc) hcl (λi p hi _ e=>?_) (.inl ⟨DV jj,cur,97,hg,?_,?_,λe t he=>?_⟩),.inl ⟨(c,cap),cap,gV _ _ _,rfl,hnc,?_,rfl,rfl⟩,by simp⟩
    .have:=hR.lo i p hi
     omega
    .show kG φ (bM l.length λi=>BF (ix l i)) (cur.toList.take (bM l.length λi=>BF (ix l i)).length)
     rw[hol,hx]
     exact abA λi _=>⟨rfl,rfl,rfl,rfl,rfl,trivial⟩
    .grind
    .grind
    grind[maxLen]
 .split at h
  .next e=>
   subst e
   obtain⟨t,a,rfl,h3,h1,la,lf⟩:=ahq h
   refine⟨yK (by kernel_rfl),λN w0 φ w bH hR ha=>?_⟩
   obtain⟨u,rfl,hu⟩:=abB ha
   obtain⟨r,rfl,hr⟩:=hu
   obtain⟨rl⟩:=r
   match rl,hr with
   |[tv],⟨ht,_⟩=>
    refine(WX (InW w) tv a w (h1.un hR ht) jb lf).mono ?_
    rintro e w' ⟨v',l,rfl,-,-,ho,hb,hl,hn⟩
    rw[<-hl]at h3
    unfold ahl at h3
    split at h3
    .next h0=>
     cases h3
     exact⟨_,rfl,φ,Ext.refl _ _,hR.below hb,hn (fj h0),jp⟩
    .next h0=>
     cases h3
     obtain⟨⟨-,h4⟩,-⟩:=ho
     rcases h4 with⟨-,h4⟩|⟨c,cap,cur,rfl,hc,hg,hnc,hm,hs,hx⟩
     .omega
     .have hN:σ.new ⟨ones l.length (λi=>.int .i64 (ix l i)),some (1,3)⟩=some (σ.aj,⟨hset σ.h σ.aj ⟨ones l.length (λi=>.int .i64 (ix l i)),some (1,3)⟩,σ.aj+1⟩):=jM _ _
      rw[abz,fD]at hx
      have hol:(ones l.length λi=>B.int .i64 (ix l i)).length=l.length:=by grind[NG]
      have hcl:c<w'.heap.size:=(eZ.mp hg).1
      refine⟨_,rfl,_,wR φ σ.aj (c,cap),(hR.below hb).new hN (w':=w') ⟨rfl,rfl,rfl,jp,λ_ _ _=>rfl⟩ (ap hR.size hc) hcl (λi p hi _ e=>?_) (.inl ⟨DV jj,cur,3,hg,?_,?_,λe t he=>?_⟩),.inl ⟨(c,cap),cap,gV _ _ _,rfl,hnc,?_,rfl,rfl⟩,by simp⟩
      .have:=hR.lo i p hi
       omega
      .grind[WY,WZ]
      .grind
      .grind
      grind[maxLen]
  .cases h
def al2(f:Nat)(args:List V)(σ:St):Option (V×St):=ahp f args σ
def al3(f:Nat)(args:List V)(σ:St)(v:V)(σ':St)(h:al2 f args σ=some (v,σ')):okF Tryz.prog f/\∀(N:Nat) (w0:World) (φ:Ph) (w:World) (bH:Array Value),Rel N w0 φ σ w->GX φ args bH.toList->
  Calls Tryz.prog f bH w λe w'=>∃cv,e=.returned cv/\∃φ',Ext σ.aj φ φ'/\Rel N w0 φ' σ' w'/\RV φ' v cv/\σ.aj<=σ'.aj:=al1 f args σ v σ' h
abbrev al4:List Nat:=[76
 ,39
 ,81
 ,40
 ,83
 ,82
 ,84
 ,85
 ,49
 ,48
 ,26
 ,41
 ,75
 ,37
 ,45
 ,151
 ,46
 ,23
 ,38
 ,17
 ,98
 ,44
 ,22
 ,60
 ,117
 ,115
 ,16
 ,136
 ,59
 ]
def aef:Nat->List V->St->Option (V×St):=(Eb al4).VO
def abC{f:Nat}(h:al4.contains f=false)(args:List V)(σ:St):aef f args σ=none:=by unfold aef Eb;dsimp only;rw[h];rfl
class auq (E:Env):Prop where
 o:∀f args σ r,aef f args σ=some r->E.VO f args σ=some r
instance {E:Env}{f:Nat} [h:auq E] [m:Mm f al4]:jK E f:=⟨λargs v σ hv=>h.o f args σ _ (by unfold aef;exact jK.o (E:=Eb al4) args v σ hv)⟩
def al5(f:Nat):Prop:=okF Tryz.prog f/\∀w,Calls Tryz.prog f #[] w λe w'=>e=.returned (.bool true)/\Below w.heap.size w w'
def awN:List Nat:=[
 1000000]
noncomputable section
open Classical in
def aur(f:Nat)(args:List V)(σ:St):Option (V×St):=bif awN.contains f then(match args with|[]=>if al5 f then some (.c (.bool true),σ)else none|_=>none)else none
def W9(f:Nat)(args:List V)(σ:St):Option (V×St):=match aef f args σ with
 |some r=>some r
 |none=>match al2 f args σ with
  |some r=>some r
  |none=>aur f args σ
end
class ZK (E:Env):Prop where
 a:∀f args σ r,W9 f args σ=some r->E.VO f args σ=some r
instance {E:Env} [h:ZK E]:auq E:=⟨λf args σ r hv=>h.a f args σ r (by unfold W9;rw[hv])⟩
def QL{E:Env}[hE:ZK E]{f:Nat}{args:List V}{v:V}{σ σ2:St}{K:V->St->Prop}(h:W9 f args σ=some (v,σ2)):aC E f args σ K=K v σ2:=by
 refine propext ⟨λ⟨n,v',σ',h1,h2⟩=>?_,λhk=>Wv (hE.a f args σ _ h) hk⟩;have h3:iU E 1 f args σ=some (v,σ2):=by rw[iU];unfold GV;rw[hE.a f args σ _ h]
 have a:=nK (show n<=n+1 by omega) f args σ _ h1;have b:=nK (show 1<=n+1 by omega) f args σ _ h3;rw[a]at b;cases b;exact h2
section
variable {E:Env} [ZK E] {σ:St} {K:V→St→Prop}
end
end Go.Proofs.Xe
namespace Go.Proofs.Xe
open Go.Proofs
set_option maxRecDepth 1000000
set_option maxHeartbeats 8000000
def EN:Env:=⟨tF Tryz.prog,W9⟩
instance ayl:ZK EN:=⟨λ_ _ _ _ h=>h⟩
structure jc(k:Nat) where
 a:AF
 g:tG Tryz.prog k=some a:=by conv=>(lhs;reduce;simp only[an8])
 i:Wh Tryz.prog k a=true:=by kernel_rfl
 o:∀args σ,EN.VO k args σ=none:=by exact λ_ _=>rfl
def jc.h{k:Nat}(b:jc k):EN.fns k=some b.a:=an7 b.g b.i
def lK:jc 4:=.mk _
def FP:jc 12:=.mk _
def sH:jc 13:=.mk _
def sJ:jc 14:=.mk _
def wZ:jc 15:=.mk _
def CU:jc 18:=.mk _
def aki:jc 19:=.mk _
def CV:jc 20:=.mk _
def CW:jc 21:=.mk _
def xg:jc 24:=.mk _
def FQ:jc 28:=.mk _
def NJ:jc 29:=.mk _
def qO:jc 30:=.mk _
def sK:jc 31:=.mk _
def jS:jc 32:=.mk _
def kK:jc 33:=.mk _
def sN:jc 34:=.mk _
def kL:jc 35:=.mk _
def jh:jc 36:=.mk _
def nU:jc 42:=.mk _
def CX:jc 43:=.mk _
def Jf:jc 50:=.mk _
def FT:jc 51:=.mk _
def qP:jc 52:=.mk _
def mV:jc 53:=.mk _
def uP:jc 54:=.mk _
def iH:jc 55:=.mk _
def jm:jc 56:=.mk _
def jT:jc 57:=.mk _
def jU:jc 58:=.mk _
def oD:jc 61:=.mk _
def uS:jc 62:=.mk _
def lM:jc 63:=.mk _
def jD:jc 64:=.mk _
def sO:jc 65:=.mk _
def jV:jc 66:=.mk _
def qQ:jc 67:=.mk _
def lN:jc 68:=.mk _
def lQ:jc 69:=.mk _
def uT:jc 70:=.mk _
def jE:jc 71:=.mk _
def sS:jc 72:=.mk _
def eY:jc 73:=.mk _
def pK:jc 74:=.mk _
def jo:jc 90:=.mk _
def pO:jc 92:=.mk _
def nN:jc 93:=.mk _
def uU:jc 94:=.mk _
def kM:jc 95:=.mk _
def lS:jc 96:=.mk _
def lT:jc 97:=.mk _
def gW:jc 99:=.mk _
def jF:jc 100:=.mk _
def qU:jc 101:=.mk _
def uV:jc 102:=.mk _
def qV:jc 103:=.mk _
def jW:jc 104:=.mk _
def jG:jc 105:=.mk _
def iM:jc 106:=.mk _
def oG:jc 107:=.mk _
def sU:jc 108:=.mk _
def uX:jc 109:=.mk _
def xq:jc 110:=.mk _
def qW:jc 111:=.mk _
def eH:jc 112:=.mk _
def xu:jc 113:=.mk _
def je:jc 114:=.mk _
def kN:jc 116:=.mk _
def fZ:jc 118:=.mk _
def dY:jc 131:=.mk _
def iW:jc 132:=.mk _
def jX:jc 137:=.mk _
def fK:jc 138:=.mk _
def jY:jc 139:=.mk _
def jZ:jc 140:=.mk _
def ku:jc 141:=.mk _
def jf:jc 142:=.mk _
def uY:jc 143:=.mk _
def jq:jc 144:=.mk _
def uZ:jc 145:=.mk _
def xw:jc 146:=.mk _
def qX:jc 147:=.mk _
def sV:jc 149:=.mk _
def pU:jc 150:=.mk _
def kS:jc 152:=.mk _
def iI:jc 153:=.mk _
def fM:jc 171:=.mk _
def xA:jc 175:=.mk _
def vg:jc 176:=.mk _
def kT:jc 177:=.mk _
def nO:jc 178:=.mk _
def lU:jc 179:=.mk _
def lV:jc 180:=.mk _
def mW:jc 181:=.mk _
def lW:jc 182:=.mk _
def xB:jc 204:=.mk _
def gI:jc 205:=.mk _
def xC:jc 206:=.mk _
end Go.Proofs.Xe
namespace Go.Proofs.Xe
open Go Go.RowKit Go.Proofs.Ins
noncomputable section
def EK:Env:=⟨tF Tryz.prog,λ_ _ _=>none⟩
def isQ(q:Rat):V->Bool
 |.agg [.bool n,.str s,.str d]=>(n==rn q)&&(decide (s=rs q)&&decide (d=rd q))
 |_=>false
def abD(f:Nat)(args:List V)(q:Rat):Bool:=match iU EK 400 f args ⟨.leaf,0⟩with
 |some (v,_)=>isQ q v
 |none=>false
end
set_option maxRecDepth 1000000
set_option maxHeartbeats 8000000
def ahs(p:Nat->Bool):Nat->Bool
 |0=>true
 |n+1=>bif p n then ahs p n else false
def Jg{p:Nat->Bool}:∀{n:Nat},ahs p n=true->∀i,i<n->p i=true
 |n+1,h,i,hi=>by
  unfold ahs at h;cases hp:p n with
  |false=>rw[hp]at h;cases h
  |true=>
   rw[hp]at h
   by_cases e:i=n
   .rw[e];exact hp
   .exact Jg h i jb
def kW:Bool:=ahs (λi=>abD 49 [.c (.int .i64 (.ofNat i))] (((i:Nat):Int):Rat)) 31
def kR(j:Nat):Bool:=ahs (λi=>abD 48 [.c (.int .i64 (.ofNat i)),.c (.int .i64 (.ofNat (j+1)))] ((((i:Nat):Int):Rat)/(((j+1:Nat):Int):Rat))) 23
def aus:kW=true:=by kernel_rfl
def kr0:kR 0=true:=by kernel_rfl
def kr1:kR 1=true:=by kernel_rfl
def kr2:kR 2=true:=by kernel_rfl
def kr3:kR 3=true:=by kernel_rfl
def kr4:kR 4=true:=by kernel_rfl
def kr5:kR 5=true:=by kernel_rfl
def aut:∀j,j<6->kR j=true
 |0,_=>kr0
 |1,_=>kr1
 |2,_=>kr2
 |3,_=>kr3
 |4,_=>kr4
 |5,_=>kr5
end Go.Proofs.Xe
end
