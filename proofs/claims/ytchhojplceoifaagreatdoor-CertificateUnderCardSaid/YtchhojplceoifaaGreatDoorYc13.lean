import Derived.Shelf.Sort.Plain
import Derived.Shelf.Slices.CompactI
import Derived.Shelf.Slices.In.SortNone
import Derived.Test.YtchhojplceoifaaGreatDoorYc12
import Derived.Lib.SlicesCompact
import Derived.Lib.OwnBridge
set_option linter.all false
set_option maxHeartbeats 8000000
noncomputable section
namespace Go.Proofs
open Go.Shelf
def Tryz.lays189_ren:Go.Shelf.Ren:=⟨λ|189=>182|125=>215|257=>214|128=>227|129=>238|294=>229|295=>230|296=>231|297=>232|298=>233|299=>234|216=>235|300=>236|301=>237|328=>244|329=>245|330=>246|331=>247|332=>248|215=>249|343=>254|n=>n,λ|28=>31|3=>3|46=>73|0=>0|51=>177|53=>178|4=>4|183=>284|182=>283|131=>289|5=>5|9=>9|218=>295|222=>299|228=>307|229=>308|n=>n,λ|n=>n⟩
def Tryz.lays189:Go.Proofs.Lays.n189 Tryz.prog Tryz.lays189_ren:={
 mixed:=by kernel_rfl
 f125:=Tryz.func215.trans (bL some (by kernel_rfl))
 f128:=Tryz.func227.trans (bL some (by kernel_rfl))
 f129:=Tryz.func238.trans (bL some (by kernel_rfl))
 f189:=Tryz.func182.trans (bL some (by kernel_rfl))
 f215:=Tryz.func249.trans (bL some (by kernel_rfl))
 f216:=Tryz.func235.trans (bL some (by kernel_rfl))
 f257:=Tryz.func214.trans (bL some (by kernel_rfl))
 f294:=Tryz.func229.trans (bL some (by kernel_rfl))
 f295:=Tryz.func230.trans (bL some (by kernel_rfl))
 f296:=Tryz.func231.trans (bL some (by kernel_rfl))
 f297:=Tryz.func232.trans (bL some (by kernel_rfl))
 f298:=Tryz.func233.trans (bL some (by kernel_rfl))
 f299:=Tryz.func234.trans (bL some (by kernel_rfl))
 f300:=Tryz.func236.trans (bL some (by kernel_rfl))
 f301:=Tryz.func237.trans (bL some (by kernel_rfl))
 f328:=Tryz.func244.trans (bL some (by kernel_rfl))
 f329:=Tryz.func245.trans (bL some (by kernel_rfl))
 f330:=Tryz.func246.trans (bL some (by kernel_rfl))
 f331:=Tryz.func247.trans (bL some (by kernel_rfl))
 f332:=Tryz.func248.trans (bL some (by kernel_rfl))
 f343:=Tryz.func254.trans (bL some (by kernel_rfl))
 t0:=Tryz.underlying0
 a0:=Tryz.isAgg0
 z0:=Tryz.sizeOf0
 v0:=Tryz.zeroValue0
 t3:=Tryz.underlying3
 a3:=Tryz.isAgg3
 z3:=Tryz.sizeOf3
 v3:=Tryz.zeroValue3
 t4:=Tryz.underlying4
 a4:=Tryz.isAgg4
 z4:=Tryz.sizeOf4
 v4:=Tryz.zeroValue4
 t5:=Tryz.underlying5
 a5:=Tryz.isAgg5
 z5:=Tryz.sizeOf5
 v5:=Tryz.zeroValue5
 t9:=Tryz.underlying9
 a9:=Tryz.isAgg9
 z9:=Tryz.sizeOf9
 v9:=Tryz.zeroValue9
 t28:=Tryz.underlying31
 a28:=Tryz.isAgg31
 z28:=Tryz.sizeOf31
 v28:=Tryz.zeroValue31
 t46:=Tryz.underlying73
 a46:=Tryz.isAgg73
 z46:=Tryz.sizeOf73
 v46:=Tryz.zeroValue73
 t51:=Tryz.underlying177
 a51:=Tryz.isAgg177
 z51:=Tryz.sizeOf177
 v51:=Tryz.zeroValue177
 t53:=Tryz.underlying178
 a53:=Tryz.isAgg178
 z53:=Tryz.sizeOf178
 v53:=Tryz.zeroValue178
 t131:=Tryz.underlying289
 a131:=Tryz.isAgg289
 z131:=Tryz.sizeOf289
 v131:=Tryz.zeroValue289
 t182:=Tryz.underlying283
 a182:=Tryz.isAgg283
 z182:=Tryz.sizeOf283
 v182:=Tryz.zeroValue283
 t183:=Tryz.underlying284
 a183:=Tryz.isAgg284
 z183:=Tryz.sizeOf284
 v183:=Tryz.zeroValue284
 t218:=Tryz.underlying295
 a218:=Tryz.isAgg295
 z218:=Tryz.sizeOf295
 v218:=Tryz.zeroValue295
 t222:=Tryz.underlying299
 a222:=Tryz.isAgg299
 z222:=Tryz.sizeOf299
 v222:=Tryz.zeroValue299
 t228:=Tryz.underlying307
 a228:=Tryz.isAgg307
 z228:=Tryz.sizeOf307
 v228:=Tryz.zeroValue307
 t229:=Tryz.underlying308
 a229:=Tryz.isAgg308
 z229:=Tryz.sizeOf308
 v229:=Tryz.zeroValue308 }
open Go.Sort Go.RowKit in
def Tryz.slices_Sort_int(blk off cap:Nat)(zs:List Int)(w:World)(hH:Holds (Value.int .i64) w blk off zs.toArray)(hblk:blk<w.heap.size)(hsz:zs.length<4611686018427387904):
  Calls Tryz.prog 182 #[.slice (some ⟨blk,off,none⟩) zs.length cap] w λe w'=>
   e=.returned (.tuple #[])/\∃n os,w'=grow (putRow (Value.int .i64) (Sort.ahead w n) blk off (zs.mergeSort λx y=>decide (x<=y)).toArray) os:=Any.slices_Sort_int Tryz.lays189 blk off cap zs w hH hblk hsz
open Go.RowKit Go.Sort in
def Tryz.slices_Sort_int_none(p:Option Addr)(cap:Nat)(w:World):
  Calls Tryz.prog 182 #[.slice p 0 cap] w λe w'=>e=.returned (.tuple #[])/\w'=w:=Any.slices_Sort_int_none Tryz.lays189 p cap w
def Tryz.laysNm220_ren:Go.Shelf.Ren:=⟨λ|20=>183|n=>n,λ|22=>31|3=>3|4=>4|0=>0|n=>n,λ|n=>n⟩
def Tryz.laysNm220:Go.Proofs.Lays2.n20 Tryz.prog Tryz.laysNm220_ren:={
 mixed:=by kernel_rfl
 f20:=Tryz.func183.trans (bL some (by kernel_rfl))
 t0:=Tryz.underlying0
 a0:=Tryz.isAgg0
 z0:=Tryz.sizeOf0
 v0:=Tryz.zeroValue0
 t3:=Tryz.underlying3
 a3:=Tryz.isAgg3
 z3:=Tryz.sizeOf3
 v3:=Tryz.zeroValue3
 t4:=Tryz.underlying4
 a4:=Tryz.isAgg4
 z4:=Tryz.sizeOf4
 v4:=Tryz.zeroValue4
 t22:=Tryz.underlying31
 a22:=Tryz.isAgg31
 z22:=Tryz.sizeOf31
 v22:=Tryz.zeroValue31
 i3:=by kernel_rfl }
open Go.RowKit Go.Lib Go.Sort in
def Tryz.slices_Compact_int(blk off cap:Nat)(zs:List Int)(w:World)(hH:Holds (Value.int .i64) w blk off zs.toArray)(hsz:zs.length<=9223372036854775807)(hcap:zs.length<=cap):
  Calls Tryz.prog 183 #[.slice (some ⟨blk,off,none⟩) zs.length cap] w λe w'=>e=.returned (.slice (some ⟨blk,off,none⟩) (Lib.compact zs).length cap)/\∃q,w'=putRow (Value.int .i64) (Sort.ahead w q) blk off (Lib.compact zs++List.replicate (zs.length-(Lib.compact zs).length) 0).toArray:=Any.slices_Compact_int Tryz.laysNm220 blk off cap zs w hH hsz hcap
open Go.RowKit Go.Lib Go.Sort in
def Tryz.slices_Compact_int_empty(a:Option Addr)(cap:Nat)(w:World):
  Calls Tryz.prog 183 #[.slice a 0 cap] w λe w'=>e=.returned (.slice a 0 cap)/\w'=w:=Any.slices_Compact_int_empty Tryz.laysNm220 a cap w
end Go.Proofs
namespace Go.Proofs.Ins
def wI(a:iy):List Int:=Lib.compact (((a.flatten.map λx=>x.k).filter λx=>x !=-1).mergeSort λx y=>decide (x<=y))
def Dj(d:Array Int)(hs:∀i j,i<=j->j<d.size->d[i]!<=d[j]!):∀m,m<=d.size->(Lib.compactUpTo d m).Pairwise (· < ·)/\∀x∈Lib.compactUpTo d m,0<m/\x<=d[m-1]!
 |0,_=>by unfold Lib.compactUpTo;simp
 |m+1,hm=>by
  obtain⟨h1,h2⟩:=Dj d hs m jb;rw[Lib.compactUpTo_succ];have h3:∀x∈Lib.compactUpTo d m,x<=d[m]!:=λx hx=>by obtain⟨h4,h5⟩:=h2 x hx;have:=hs (m-1) m jb jb;omega
  rw[show m+1-1=m by omega];by_cases hk:Lib.keeps d m=true
  .rw[ab hk];have h6:∀x∈Lib.compactUpTo d m,x<d[m]!:=λx hx=>by
    obtain⟨h4,h5⟩:=h2 x hx;have h7:=hs (m-1) m jb jb;unfold Lib.keeps at hk;have hk:=cP hk;rcases hk with hk|hk
    .omega
    .omega
   refine⟨List.pairwise_append.mpr ⟨h1,List.pairwise_singleton _ _,λx hx y hy=>?_⟩,λx hx=>⟨jb,?_⟩⟩
   .rw[dT]at hy;rw[hy];exact h6 x hx
   .rcases cj.mp hx with hx|hx
    .exact h3 x hx
    .rw[dT]at hx;rw[hx];exact Int.le_refl _
  .rw[ae hk,dy];exact⟨h1,λx hx=>⟨jb,h3 x hx⟩⟩
def aae{zs:List Int}(hs:zs.Pairwise (·<=·)):(Lib.compact zs).Pairwise (· < ·):=by
 refine(Dj zs.toArray (λi j hij hj=>?_) zs.length kc).1;have hj:j<zs.length:=jb;have hi:i<zs.length:=jb;simp only[List.getElem!_toArray];rw[getElem!_pos zs i hi,getElem!_pos zs j hj];by_cases e:i=j
 .grind
 .exact jn.mp hs i j hi hj jb
theorem mem_compact {zs:List Int} {x:Int} : x∈Lib.compact zs↔x∈zs:=by
 unfold Lib.compact Lib.compactUpTo
 rw [List.mem_map]
 constructor
 ·grind
 ·intro hx
  obtain ⟨i,hi,rfl⟩:=List.getElem_of_mem hx
  have : ∀ j,j<zs.length→∃ k,k≤j∧Lib.keeps zs.toArray k=true∧zs.toArray[k]! = zs.toArray[j]!:=by
   intro j
   induction j with
   | zero=>grind[Lib.keeps]
   | succ j ih =>
    grind[Go.Lib.keeps]
  grind
def abS(a:iy):(wI a).Pairwise (· < ·):=by refine aae ?_;grind[List.pairwise_mergeSort]
def qV{a:iy}{c:Int}:c∈wI a↔c≠-1/\PX a c=true:=by grind[wI,mem_compact,List.mem_mergeSort,PX,memT]
end Go.Proofs.Ins
namespace Go.Proofs.Ins
open Go.RowKit
def Dk{F:Nat->List Value}{sz:Nat}:∀(n:Nat),(∀i,i<n->(F i).length=sz)->((List.range n).flatMap F).length=n*sz
 |0,_=>by simp
 |n+1,h=>by rw[fv,cU,aD,Dk n (λi hi=>h i jb)];simp[h n jb,cB]
def cJ(l:List Int)(j:Nat):List Value:=[.int .i64 (l.getD j 0)]
def abT(l:List Int):(List.range l.length).flatMap (cJ l)=l.map (Value.int .i64):=by
 apply List.ext_getElem?;intro j;by_cases h:j<l.length
 .have:=yF (sz:=1) (F:=cJ l) l.length (λi _=>rfl) j 0 h jb;grind[cJ]
 .rw[List.getElem?_eq_none,List.getElem?_eq_none]
  .simpa using h
  .rw[Dk (sz:=1) l.length (λi _=>rfl)];omega
def amh(l:List Int)(x:Int)(j:Nat)(hj:j<l.length+1):(if j<l.length then cJ l j else [.int .i64 x])=cJ (l++[x]) j:=by grind[cJ]
def Ia{w:World}{base:Nat}{T:TypeId}{v:Value}{l:List Int}:lJ w base T 1 v l.length (cJ l)↔w.ownsRow base T 1 v l.length (l.map (Value.int .i64)):=by unfold lJ;rw[abT];exact⟨λh=>h.1,λh=>⟨h,λ_ _=>rfl⟩⟩
def below_grow{B:Nat}{w0 w:World}{os:Array Obj}(h:Below B w0 w)(hB:B<=w.heap.size):Below B w0 (Sort.grow w os):=
 ⟨h.os,h.tape,h.output,by have:=h.size;grind[Sort.grow],λk hk=>by rw[<-h.block k hk];grind[Sort.heap_grow_old]⟩
def ownsRow_grow{w:World}{base:Nat}{T:TypeId}{v:Value}{n:Nat}{xs:List Value}{os:Array Obj}(h:w.ownsRow base T 1 v n xs):(Sort.grow w os).ownsRow base T 1 v n xs:=by
 obtain⟨h1,h2⟩:=h;refine⟨h1,?_⟩;rcases h2 with h2|⟨g,cap,cur,hv,hb,hg,r⟩
 .grind
 .exact .inr ⟨g,cap,cur,hv,hb,by grind[Sort.heap_grow_old],r⟩
def Xh{w:World}{base:Nat}{T:TypeId}{sz n:Nat}{F:Nat->List Value}(h:lJ w base T sz (.slice none 0 0) n F):n=0:=by obtain⟨⟨-,h1⟩,-⟩:=h;grind
def ahx(w:World)(base:Nat)(v:Value)(l:List Int)(h:lJ w base 3 1 v l.length (cJ l))(hb:base<=w.heap.size)(hl:l.length<4611686018427387904):
  Calls Tryz.prog 182 #[v] w λe w'=>e=.returned (.tuple #[])/\∃l':List Int,l'.length=l.length/\(∀x,x∈l'↔x∈l)/\lJ w' base 3 1 v l'.length (cJ l')/\Below base w w'/\l'=l.mergeSort λx y=>decide (x<=y):=by
 by_cases hv:v=.slice none 0 0
 .subst hv
  refine(Tryz.slices_Sort_int_none none 0 w).mono λe w' ⟨he,hw⟩=>⟨he,l,rfl,λ_=>Iff.rfl,by grind,by grind[Below.refl],by rw[fo (Xh h)];simp⟩
 .have hr:=Ia.mp h
  obtain⟨g,cap,rfl,h1,h2,h3,h4,h5,h6⟩:=Lib.holds_of_ownsRow hr hv
  refine(Tryz.slices_Sort_int g 0 cap l w h6 h2 hl).mono ?_
  rintro e w' ⟨he,n,os,rfl⟩
  refine⟨he,l.mergeSort λx y=>decide (x<=y),by simp,λx=>List.mem_mergeSort,Ia.mpr ?_,below_grow (Lib.below_putRow (Below.refl base w) h1) (by simp_all),rfl⟩
  refine ownsRow_grow ?_
  have:=Lib.ownsRow_putRow (q:=n) (k:=l.length) (ys:=l.mergeSort λx y=>decide (x<=y)) hr kc jp
  grind[List.length_mergeSort]
def Xi(w:World)(base:Nat)(v:Value)(l:List Int)(h:lJ w base 3 1 v l.length (cJ l))(hl:l.length<=9223372036854775807):
  Calls Tryz.prog 183 #[v] w λe w'=>∃v' l',e=.returned v'/\l'.length<=l.length/\(∀x,x∈l'↔x∈l)/\lJ w' base 3 1 v' l'.length (cJ l')/\Below base w w'/\l'=Lib.compact l/\(v=.slice none 0 0->v'=.slice none 0 0):=by
 by_cases hv:v=.slice none 0 0
 .subst hv
  refine(Tryz.slices_Compact_int_empty none 0 w).mono λe w' ⟨he,hw⟩=>⟨_,l,he,jp,λ_=>Iff.rfl,by grind,by grind[Below.refl],by rw[fo (Xh h)];rfl,λh=>h⟩
 .have hr:=Ia.mp h
  obtain⟨g,cap,rfl,h1,h2,h3,h4,h5,h6⟩:=Lib.holds_of_ownsRow hr hv
  refine(Tryz.slices_Compact_int g 0 cap l w h6 hl h3).mono ?_
  rintro e w' ⟨he,q,rfl⟩
  have hle:=Lib.compact_length_le l
  refine⟨_,Lib.compact l,he,hle,λx=>mem_compact,Ia.mpr ?_,Lib.below_putRow (Below.refl base w) h1,rfl,λh=>absurd h hv⟩
  grind[Lib.ownsRow_putRow,List.take_left]
def mks(l:List AV)(k:Nat):List Int:=((l.take k).map λx=>x.k).filter λx=>x !=-1
def ahy(l:List AV):mks l 0=[]:=by rfl
def ami{l:List AV}{k:Nat}(h:k<l.length)(h2:(ix l k).k≠-1):mks l (k+1)=mks l k++[(ix l k).k]:=by grind[mks,bU]
def arG{l:List AV}{k:Nat}(h:k<l.length)(h2:(ix l k).k=-1):mks l (k+1)=mks l k:=by grind[mks,bU]
def amj(l:List AV)(k:Nat):(mks l k).length<=k:=by grind[Go.Proofs.Ins.mks]
def amk{a:iy}{c:Int}:c∈mks a.flatten a.flatten.length↔c≠-1/\PX a c=true:=by grind[mks,PX,memT]
def ava(w:World)(T:TypeId)(a:iy)(e:Ending)(w':World):Prop:=
 ∃v l,e=.returned v/\l.length<=a.flatten.length/\(∀c,c∈l↔c≠-1/\PX a c=true)/\lJ w' w.heap.size T 1 v l.length (cJ l)/\Below w.heap.size w w'/\l=wI a/\(l=[]->v=.slice none 0 0)
set_option maxRecDepth 100000 in
def Xj(p:Nat->Prop)(v:Value)(a:iy)(w:World)(hA:xH w p v a)(la:a.length<=140737488351232)(lf:a.flatten.length<=1000000):
  Calls Tryz.prog 140 #[.agg #[v]] w (ava w 3 a):=by
 have HC:=jx (λw' (h:xH w' p v a)=>Xg p v a w' h la lf)
 have HA:=jx hA
 have HM:=jx (λc=>amk (a:=a) (c:=c))
 have HY:=jx (λk h h2=>ami (l:=a.flatten) (k:=k) h h2)
 have HN:=jx (λk h h2=>arG (l:=a.flatten) (k:=k) h h2)
 have HL:=jx (amj a.flatten)
 have H0:=jx (ahy a.flatten)
 have HML:=jx (show wI a=Lib.compact ((mks a.flatten a.flatten.length).mergeSort λx y=>decide (x<=y)) by unfold wI mks;rw[cC])
 unfold ava
 clear hA
 generalize hmm:mks a.flatten=MK at*
 generalize hfl:a.flatten=fl at*
 clear hmm hfl
 generalize hN:fl.length=N at*
 go_enter Tryz.func140,Tryz.ntmps140
 go_wp2_with fail
 refine(HC.out _ (HA.out.on ((Below.refl _ _).alloc jp _))).mono ?_
 rintro e w1 ⟨v1,rfl,ho1,hb1⟩
 obtain⟨-,HB⟩:=apG hb1
 have HB:=jx HB
 have hz1:=HB.out.size
 have hsl:=ho1.sl
 obtain⟨a1,cap1,rfl,-,-⟩:=hsl.form
 have HSL:=jx hsl
 clear ho1 hb1 hsl HC HA
 go_wp2_with fail
 go_loopw [3,10] (λv i wr=>∃k:Nat,i=.int .i64 k/\k<=N/\lJ wr w1.heap.size 3 1 v (MK k).length (cJ (MK k))/\Below w1.heap.size w1 wr/\Hid (MK k=[]->v=.slice none 0 0)) (λ_ i _=>N-(intOf i).toNat)
 case atStart=>exact⟨0,rfl,jb,by rw[H0.out];exact lJ.nil _ _ _ _ _,Below.refl _ _,jx λ_=>rfl⟩
 case round=>
  obtain⟨k,rfl,hk,hown,hbel,HNV⟩:=hrel;have HO:=jx hown;have HBR:=jx hbel;have hsz:=hbel.size;by_cases hlt:k<N
  .obtain⟨b,off,rfl,-,-,-⟩:=HSL.out.get jb;have e0:=HSL.out.cellAt rfl hbel (i:=k) (j:=0) hlt jb;have e1:wr.cell? ⟨b,off+k*5+1,none⟩=some (Value.bool (ix fl k).b):=HSL.out.cellAt rfl hbel (i:=k) (j:=1) hlt jb;have e2:wr.cell? ⟨b,off+k*5+2,none⟩=some (Value.bool (ix fl k).a.n):=HSL.out.cellAt rfl hbel (i:=k) (j:=2) hlt jb;have e3:wr.cell? ⟨b,off+k*5+3,none⟩=some (Value.string (ix fl k).a.s):=HSL.out.cellAt rfl hbel (i:=k) (j:=3) hlt jb;have e4:wr.cell? ⟨b,off+k*5+4,none⟩=some (Value.string (ix fl k).a.d):=HSL.out.cellAt rfl hbel (i:=k) (j:=4) hlt jb;rw[cE]at e0;have e0':wr.cell? ⟨b,off+k*5,none⟩=some (Value.int .i64 (ix fl k).k):=e0;have HYK:=jx (HY.out k jb);have HNK:=jx (HN.out k jb);have hlk:=HL.out k;have i1:(0:Int)<=(k:Int):=jb;have i2:(k:Int)<(N:Int):=jb;clear e0 hown hbel HY HN HL HM;generalize avb:MK (k+1)=M1 at*;have HM1:=jx avb;generalize axz:MK k=M0 at*;clear avb axz;generalize (ix fl k).k=x at*;generalize (ix fl k).b=pb at*;generalize (ix fl k).a.n=an at*;generalize (ix fl k).a.s=as' at*;generalize (ix fl k).a.d=ad at*;by_cases hx:x=-1
   .have h1:(x !=-1)=false:=by simp[hx]
    have HX:=jx (HNK.out hx);clear HYK HNK;go_wp2;go_roundw
    case rel=>exact⟨k+1,by go_num,jb,by rw[HM1.out,HX.out];exact HO.out.below ((Below.refl _ _).alloc jp _) jp,HBR.out.alloc jb _,jx λh=>HNV.out (by rwa[HM1.out,HX.out]at h)⟩
    case measure=>simp[intOf];omega
   .have h1:(x !=-1)=true:=by simp[hx]
    have HX:=jx (HYK.out hx);have HO2:=jx (HO.out.below ((Below.refl wr.heap.size wr).alloc jp (.cells #[.int .i64 x,.bool pb,.bool an,.string as',.string ad] 126)) jp);have hz2:(wr.alloc (.cells #[.int .i64 x,.bool pb,.bool an,.string as',.string ad] 126)).heap.size=wr.heap.size+1:=by simp
    clear HYK HNK;go_wp2_with (refine MJ _ _ 31 3 1 8 w1.heap.size _ _ _ [.int .i64 x] (by rfl) (by rfl) Tryz.underlying31 akN jb (by rfl) (by rfl) (by simp[Value.oneCell']) (by rw[World.size_alloc];rfl) HO2.out jb jb (by rw[World.size_alloc];omega) ?_;intro v9 w9 ho9 hb9;have HO9:=jx ho9;have HB9:=jx hb9;clear ho9 hb9)
    go_roundw
    case rel=>
     refine⟨k+1,by go_num,jb,?_,(HBR.out.alloc jb _).trans HB9.out,jx λh=>by rw[HM1.out,HX.out]at h;simp at h⟩;rw[HM1.out,HX.out,aD];exact HO9.out.congr λj hj=>amh _ _ j hj
    case measure=>simp[intOf];omega
  .obtain rfl:k=N:=jb;have hnl:decide ((k:Int)<(k:Int))=false:=by simp
   have hlk:=HL.out k;have HST:=jx (ahx wr w1.heap.size u3 (MK k) hown jb jb);go_wp2_with fail;refine HST.out.mono ?_;rintro e w2 ⟨rfl,l2,hl2,hm2,ho2,hb2,hs2⟩;have HCP:=jx (Xi w2 w1.heap.size u3 l2 ho2 jb);have HB2:=jx (HBR.out.trans hb2);have HM2:=jx hm2;have HS2:=jx hs2;clear ho2 hb2 HST hm2 hown hbel hs2;go_wp2_with fail;refine HCP.out.mono ?_;rintro e w3 ⟨v3,l3,rfl,hl3,hm3,ho3,hb3,hc3,hn3⟩;have HO3:=jx ho3;have HM3:=jx hm3;have HB3:=jx (HB2.out.trans hb3);have HC3:=jx hc3;have HN3:=jx hn3;clear ho3 hm3 hb3 hc3 hn3;go_wp2;go_ret;exact⟨_,l3,rfl,jb,λc=>by rw[HM3.out,HM2.out,HM.out],HO3.out.mono jb,chain HB.out HB3.out jp,by rw[HC3.out,HS2.out,HML.out],λh=>HN3.out (HNV.out (List.eq_nil_iff_forall_not_mem.mpr λx hx=>by have:=(HM3.out x).mpr ((HM2.out x).mpr hx);rw[h]at this;cases this))⟩
end Go.Proofs.Ins
namespace Go.Proofs.Xe
open Go.RowKit Go.Proofs.Ins
theorem Xk:∀l:List Int,ones l.length (λi=>B.int .i64 (ix l i))=l.map (B.int .i64)
 |[]=>rfl
 |x::l=>by show [B.int .i64 x]++bJ l.length (λi=>[B.int .i64 (ix l i)])=_;have:=Xk l;unfold ones at this;rw[this];rfl
theorem Xl(φ:Ph):∀l:List Int,kH φ (l.map (B.int .i64)) (l.map (Value.int .i64))
 |[]=>trivial
 |_::l=>⟨rfl,Xl φ l⟩
def ahz(l:List Int)(σ:St):Option (V×St):=if l.length=0 then some (.c .aX,σ)else some (.c (.sl σ.aj 0 l.length .opn),⟨hset σ.h σ.aj ⟨ones l.length (λi=>.int .i64 (ix l i)),some (1,3)⟩,σ.aj+1⟩)
def abU{φ:Ph}:∀{n:Nat}{G:Nat->List B}{F:Nat->List Value},(∀i,i<n->kH φ (G i) (F i))->kH φ (bJ n G) ((List.range n).flatMap F)
 |0,_,_,_=>trivial
 |n+1,G,F,h=>by rw[List.range_succ_eq_map,il,iA];exact kH.append (h 0 jb) (abU λi hi=>h (i+1) jb)
def ahA(l:List AV)(σ:St):Option (V×St):=if l.length=0 then some (.c .aX,σ)else some (.c (.sl σ.aj 0 l.length .opn),⟨hset σ.h σ.aj ⟨bJ l.length λi=>BR (ix l i),some (5,126)⟩,σ.aj+1⟩)
noncomputable section
open Classical in
def ahB(args:List V)(σ:St):Option (V×St):=match args with
 |[.agg [v]]=>if h:∃a,fC (λ_=>True) σ.h v a/\a.length<=1000000/\a.flatten.length<=1000000 then ahz (wI (Classical.choose h)) σ else none
 |_=>none
open Classical in
def ahC(args:List V)(σ:St):Option (V×St):=match args with
 |[.c v]=>if h:∃a,fC (λ_=>True) σ.h v a/\a.length<=1000000/\a.flatten.length<=1000000 then ahA (Classical.choose h).flatten σ else none
 |_=>none
def ahD(f:Nat)(args:List V)(σ:St):Option (V×St):=
 if f=181 then ahC args σ
 else if f=140 then ahB args σ
 else none
end
def aml{p:Nat->Prop}{σ:St}{v:B}{a:iy}(ha:fC p σ.h v a)(h1:a.length<=1000000)(h2:a.flatten.length<=1000000):ahB [.agg [v]] σ=ahz (wI a) σ:=by
 have h:∃a,fC (λ_=>True) σ.h v a/\a.length<=1000000/\a.flatten.length<=1000000:=⟨a,ha.keep (λ_ _=>rfl) λ_ _=>trivial,h1,h2⟩
 unfold ahB;dsimp only;rw[dif_pos h,(Classical.choose_spec h).1.uniq ha]
def ahE{args:List V}{σ σ':St}{v:V}(h:ahB args σ=some (v,σ')):∃t a,args=[.agg [t]]/\ahz (wI a) σ=some (v,σ')/\fC (λ_=>True) σ.h t a/\a.length<=1000000/\a.flatten.length<=1000000:=by
 unfold ahB at h;split at h
 .next t=>
  split at h
  .grind
  .cases h
 .cases h
def amm{p:Nat->Prop}{σ:St}{v:B}{a:iy}(ha:fC p σ.h v a)(h1:a.length<=1000000)(h2:a.flatten.length<=1000000):ahC [.c v] σ=ahA a.flatten σ:=by
 have h:∃a,fC (λ_=>True) σ.h v a/\a.length<=1000000/\a.flatten.length<=1000000:=⟨a,ha.keep (λ_ _=>rfl) λ_ _=>trivial,h1,h2⟩
 unfold ahC;dsimp only;rw[dif_pos h,(Classical.choose_spec h).1.uniq ha]
def ahF{args:List V}{σ σ':St}{v:V}(h:ahC args σ=some (v,σ')):∃t a,args=[.c t]/\ahA a.flatten σ=some (v,σ')/\fC (λ_=>True) σ.h t a/\a.length<=1000000/\a.flatten.length<=1000000:=by
 unfold ahC at h;split at h
 .next t=>
  split at h
  .grind
  .cases h
 .cases h
def abV{φ:Ph}{bM:Array Value}{x:V}(h:G7 φ [x] bM.toList):∃u,bM= #[u]/\RV φ x u:=by
 obtain⟨l⟩:=bM;match l,h with
 |[u],h=>exact⟨u,rfl,h.1⟩
def amn(f:Nat)(args:List V)(σ:St)(v:V)(σ':St)(h:ahD f args σ=some (v,σ')):okF Tryz.prog f/\∀(N:Nat) (w0:World) (φ:Ph) (w:World) (bM:Array Value),Rel N w0 φ σ w->G7 φ args bM.toList->
  Calls Tryz.prog f bM w λe w'=>∃cv,e=.returned cv/\∃φ',Ext σ.aj φ φ'/\Rel N w0 φ' σ' w'/\RV φ' v cv/\σ.aj<=σ'.aj:=by
 unfold ahD at h
 split at h
 .next e=>
  subst e
  obtain⟨t,a,rfl,h3,h1,la,lf⟩:=ahF h
  refine⟨yX (by kernel_rfl),λN w0 φ w bM hR ha=>?_⟩
  obtain⟨u,rfl,hu⟩:=abV ha
  refine(H9 (InW w) u a w (h1.un hR hu) jb lf).mono ?_
  rintro e w' ⟨v',rfl,ho,hb,hz⟩
  generalize a.flatten=l at*
  unfold ahA at h3
  split at h3
  .next h0=>
   cases h3
   exact⟨_,rfl,φ,Ext.refl _ _,hR.below hb,hz h0,jp⟩
  .next h0=>
   cases h3
   obtain⟨⟨-,h4⟩,-⟩:=ho
   rcases h4 with⟨-,h4⟩|⟨c,cap,cur,rfl,hc,hg,hnc,hm,hs,hx⟩
   .omega
   .have hN:σ.new ⟨bJ l.length λi=>BR (ix l i),some (5,126)⟩=some (σ.aj,⟨hset σ.h σ.aj ⟨bJ l.length λi=>BR (ix l i),some (5,126)⟩,σ.aj+1⟩):=kJ _ _
    have hol:(bJ l.length λi=>BR (ix l i)).length=l.length*5:=qU λ_=>rfl
    have hcl:c<w'.heap.size:=(eY.mp hg).1
    refine⟨_,rfl,_,xq φ σ.aj (c,cap),(hR.below hb).new hN (w':=w') ⟨rfl,rfl,rfl,jp,λ_ _ _=>rfl⟩ (aw hR.size hc) hcl (λi p hi _ e=>?_) (.inl ⟨Eh jj,cur,126,hg,?_,?_,λe t he=>?_⟩),.inl ⟨(c,cap),cap,gY _ _ _,rfl,hnc,?_,rfl,rfl⟩,by simp⟩
    .have:=hR.lo i p hi
     omega
    .show kH φ (bJ l.length λi=>BR (ix l i)) (cur.toList.take (bJ l.length λi=>BR (ix l i)).length)
     rw[hol,hx]
     exact abU λi _=>⟨rfl,rfl,rfl,rfl,rfl,trivial⟩
    .grind
    .grind
    grind[maxLen]
 .split at h
  .next e=>
   subst e
   obtain⟨t,a,rfl,h3,h1,la,lf⟩:=ahE h
   refine⟨yX (by kernel_rfl),λN w0 φ w bM hR ha=>?_⟩
   obtain⟨u,rfl,hu⟩:=abV ha
   obtain⟨r,rfl,hr⟩:=hu
   obtain⟨rl⟩:=r
   match rl,hr with
   |[tv],⟨ht,_⟩=>
    refine(Xj (InW w) tv a w (h1.un hR ht) jb lf).mono ?_
    rintro e w' ⟨v',l,rfl,-,-,ho,hb,hl,hn⟩
    rw[<-hl]at h3
    unfold ahz at h3
    split at h3
    .next h0=>
     cases h3
     exact⟨_,rfl,φ,Ext.refl _ _,hR.below hb,hn (fo h0),jp⟩
    .next h0=>
     cases h3
     obtain⟨⟨-,h4⟩,-⟩:=ho
     rcases h4 with⟨-,h4⟩|⟨c,cap,cur,rfl,hc,hg,hnc,hm,hs,hx⟩
     .omega
     .have hN:σ.new ⟨ones l.length (λi=>.int .i64 (ix l i)),some (1,3)⟩=some (σ.aj,⟨hset σ.h σ.aj ⟨ones l.length (λi=>.int .i64 (ix l i)),some (1,3)⟩,σ.aj+1⟩):=kJ _ _
      rw[abT,fT]at hx
      have hol:(ones l.length λi=>B.int .i64 (ix l i)).length=l.length:=by grind[NM]
      have hcl:c<w'.heap.size:=(eY.mp hg).1
      refine⟨_,rfl,_,xq φ σ.aj (c,cap),(hR.below hb).new hN (w':=w') ⟨rfl,rfl,rfl,jp,λ_ _ _=>rfl⟩ (aw hR.size hc) hcl (λi p hi _ e=>?_) (.inl ⟨Eh jj,cur,3,hg,?_,?_,λe t he=>?_⟩),.inl ⟨(c,cap),cap,gY _ _ _,rfl,hnc,?_,rfl,rfl⟩,by simp⟩
      .have:=hR.lo i p hi
       omega
      .grind[Xk,Xl]
      .grind
      .grind
      grind[maxLen]
  .cases h
def amo(f:Nat)(args:List V)(σ:St):Option (V×St):=ahD f args σ
def amq(f:Nat)(args:List V)(σ:St)(v:V)(σ':St)(h:amo f args σ=some (v,σ')):okF Tryz.prog f/\∀(N:Nat) (w0:World) (φ:Ph) (w:World) (bM:Array Value),Rel N w0 φ σ w->G7 φ args bM.toList->
  Calls Tryz.prog f bM w λe w'=>∃cv,e=.returned cv/\∃φ',Ext σ.aj φ φ'/\Rel N w0 φ' σ' w'/\RV φ' v cv/\σ.aj<=σ'.aj:=amn f args σ v σ' h
abbrev amr:List Nat:=[114
 ,61
 ,111
 ,62
 ,119
 ,112
 ,120
 ,121
 ,66
 ,23
 ,21
 ,63
 ,113
 ,59
 ,64
 ,196
 ,65
 ,19
 ,60
 ,20
 ,68
 ,58
 ,17
 ,24
 ,25
 ,157
 ,18
 ,184
 ,91
 ]
def aes:Nat->List V->St->Option (V×St):=(Eb amr).V9
def abW{f:Nat}(h:amr.contains f=false)(args:List V)(σ:St):aes f args σ=none:=by unfold aes Eb;dsimp only;rw[h];rfl
class avc (E:Env):Prop where
 o:∀f args σ r,aes f args σ=some r->E.V9 f args σ=some r
instance {E:Env}{f:Nat} [h:avc E] [m:Mm f amr]:jK E f:=⟨λargs v σ hv=>h.o f args σ _ (by unfold aes;exact jK.o (E:=Eb amr) args v σ hv)⟩
def ams(f:Nat):Prop:=okF Tryz.prog f/\∀w,Calls Tryz.prog f #[] w λe w'=>e=.returned (.bool true)/\Below w.heap.size w w'
def awN:List Nat:=[
 1000000]
noncomputable section
open Classical in
def avd(f:Nat)(args:List V)(σ:St):Option (V×St):=bif awN.contains f then(match args with|[]=>if ams f then some (.c (.bool true),σ)else none|_=>none)else none
def Xm(f:Nat)(args:List V)(σ:St):Option (V×St):=match aes f args σ with
 |some r=>some r
 |none=>match amo f args σ with
  |some r=>some r
  |none=>avd f args σ
end
class aaf (E:Env):Prop where
 a:∀f args σ r,Xm f args σ=some r->E.V9 f args σ=some r
instance {E:Env} [h:aaf E]:avc E:=⟨λf args σ r hv=>h.a f args σ r (by unfold Xm;rw[hv])⟩
def Q5{E:Env}[hE:aaf E]{f:Nat}{args:List V}{v:V}{σ σ2:St}{K:V->St->Prop}(h:Xm f args σ=some (v,σ2)):aC E f args σ K=K v σ2:=by
 refine propext ⟨λ⟨n,v',σ',h1,h2⟩=>?_,λhk=>WQ (hE.a f args σ _ h) hk⟩;have h3:jd E 1 f args σ=some (v,σ2):=by rw[jd];unfold GY;rw[hE.a f args σ _ h]
 have a:=nO (show n<=n+1 by omega) f args σ _ h1;have b:=nO (show 1<=n+1 by omega) f args σ _ h3;rw[a]at b;cases b;exact h2
section
variable {E:Env} [aaf E] {σ:St} {K:V→St→Prop}
end
end Go.Proofs.Xe
namespace Go.Proofs.Xe
open Go.Proofs
set_option maxRecDepth 1000000
set_option maxHeartbeats 8000000
def EN:Env:=⟨tF Tryz.prog,Xm⟩
instance ay6:aaf EN:=⟨λ_ _ _ _ h=>h⟩
structure iZ(k:Nat) where
 a:AF
 g:tG Tryz.prog k=some a:=by conv=>(lhs;reduce;simp only[aoM])
 i:WE Tryz.prog k a=true:=by kernel_rfl
 o:∀args σ,EN.V9 k args σ=none:=by exact λ_ _=>rfl
def iZ.h{k:Nat}(b:iZ k):EN.fns k=some b.a:=aoL b.g b.i
def lN:iZ 5:=.mk _
def FY:iZ 10:=.mk _
def pW:iZ 11:=.mk _
def tq:iZ 12:=.mk _
def Dl:iZ 13:=.mk _
def oH:iZ 15:=.mk _
def pX:iZ 16:=.mk _
def FZ:iZ 39:=.mk _
def NS:iZ 40:=.mk _
def oI:iZ 41:=.mk _
def qW:iZ 42:=.mk _
def tu:iZ 43:=.mk _
def jS:iZ 44:=.mk _
def kM:iZ 45:=.mk _
def AY:iZ 46:=.mk _
def bH:iZ 47:=.mk _
def mV:iZ 48:=.mk _
def dJ:iZ 49:=.mk _
def mW:iZ 50:=.mk _
def xI:iZ 51:=.mk _
def oJ:iZ 52:=.mk _
def pY:iZ 53:=.mk _
def tH:iZ 54:=.mk _
def jD:iZ 55:=.mk _
def lQ:iZ 56:=.mk _
def tJ:iZ 57:=.mk _
def Jk:iZ 80:=.mk _
def F5:iZ 81:=.mk _
def bI:iZ 82:=.mk _
def mX:iZ 83:=.mk _
def qX:iZ 84:=.mk _
def mY:iZ 85:=.mk _
def vg:iZ 86:=.mk _
def iO:iZ 87:=.mk _
def jo:iZ 88:=.mk _
def jT:iZ 89:=.mk _
def jU:iZ 90:=.mk _
def oK:iZ 92:=.mk _
def vk:iZ 93:=.mk _
def tK:iZ 94:=.mk _
def jV:iZ 95:=.mk _
def qY:iZ 96:=.mk _
def lS:iZ 97:=.mk _
def lT:iZ 98:=.mk _
def vw:iZ 99:=.mk _
def jE:iZ 100:=.mk _
def tN:iZ 101:=.mk _
def cO:iZ 102:=.mk _
def kN:iZ 103:=.mk _
def qc:iZ 104:=.mk _
def qZ:iZ 105:=.mk _
def vC:iZ 106:=.mk _
def ru:iZ 107:=.mk _
def jW:iZ 108:=.mk _
def xJ:iZ 109:=.mk _
def jF:iZ 110:=.mk _
def jq:iZ 139:=.mk _
def qg:iZ 141:=.mk _
def nR:iZ 142:=.mk _
def vF:iZ 143:=.mk _
def kS:iZ 144:=.mk _
def lU:iZ 145:=.mk _
def lV:iZ 146:=.mk _
def ig:iZ 147:=.mk _
def jG:iZ 148:=.mk _
def oL:iZ 149:=.mk _
def tX:iZ 150:=.mk _
def vG:iZ 151:=.mk _
def xK:iZ 152:=.mk _
def rE:iZ 153:=.mk _
def fH:iZ 154:=.mk _
def xM:iZ 155:=.mk _
def ji:iZ 156:=.mk _
def kT:iZ 158:=.mk _
def jX:iZ 159:=.mk _
def jY:iZ 160:=.mk _
def fD:iZ 179:=.mk _
def je:iZ 180:=.mk _
def jZ:iZ 185:=.mk _
def fU:iZ 186:=.mk _
def ku:iZ 187:=.mk _
def vH:iZ 188:=.mk _
def jr:iZ 189:=.mk _
def vI:iZ 190:=.mk _
def xO:iZ 191:=.mk _
def rF:iZ 192:=.mk _
def dS:iZ 193:=.mk _
def tY:iZ 194:=.mk _
def qh:iZ 195:=.mk _
def kU:iZ 197:=.mk _
def iP:iZ 198:=.mk _
def fZ:iZ 212:=.mk _
def xP:iZ 216:=.mk _
def vJ:iZ 217:=.mk _
def kX:iZ 218:=.mk _
def nS:iZ 219:=.mk _
def lW:iZ 220:=.mk _
def lX:iZ 221:=.mk _
def mZ:iZ 222:=.mk _
def lY:iZ 223:=.mk _
def xQ:iZ 239:=.mk _
def gK:iZ 240:=.mk _
def xR:iZ 241:=.mk _
end Go.Proofs.Xe
end
