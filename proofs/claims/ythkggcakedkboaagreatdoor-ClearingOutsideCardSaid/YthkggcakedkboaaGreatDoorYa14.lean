import Derived.Test.YthkggcakedkboaaGreatDoorYa13
import Derived.Lib.OwnBridge
set_option linter.all false
set_option maxHeartbeats 8000000
noncomputable section
namespace Go.Proofs.Ins
open Go.RowKit
def C9{F:Nat->List Value}{sz:Nat}:∀(n:Nat),(∀i,i<n->(F i).length=sz)->((List.range n).flatMap F).length=n*sz
 |0,_=>by simp
 |n+1,h=>by rw[fv,cK,aD,C9 n (λi hi=>h i jb)];simp[h n jb,ck]
def cJ(l:List Int)(j:Nat):List Value:=[.int .i64 (l.getD j 0)]
def aco(l:List Int):(List.range l.length).flatMap (cJ l)=l.map (Value.int .i64):=by
 apply List.ext_getElem?;intro j;by_cases h:j<l.length
 .have:=yt (sz:=1) (F:=cJ l) l.length (λi _=>rfl) j 0 h jb;grind[cJ]
 .rw[List.getElem?_eq_none,List.getElem?_eq_none]
  .simpa using h
  .rw[C9 (sz:=1) l.length (λi _=>rfl)];omega
def amO(l:List Int)(x:Int)(j:Nat)(hj:j<l.length+1):(if j<l.length then cJ l j else [.int .i64 x])=cJ (l++[x]) j:=by grind[cJ]
def Il{w:World}{base:Nat}{T:TypeId}{v:Value}{l:List Int}:lQ w base T 1 v l.length (cJ l)↔w.ownsRow base T 1 v l.length (l.map (Value.int .i64)):=by unfold lQ;rw[aco];exact⟨λh=>h.1,λh=>⟨h,λ_ _=>rfl⟩⟩
def below_grow{B:Nat}{w0 w:World}{os:Array Obj}(h:Below B w0 w)(hB:B<=w.heap.size):Below B w0 (Sort.grow w os):=
 ⟨h.os,h.tape,h.output,by have:=h.size;grind[Sort.grow],λk hk=>by rw[<-h.block k hk];grind[Sort.heap_grow_old]⟩
def ownsRow_grow{w:World}{base:Nat}{T:TypeId}{v:Value}{n:Nat}{xs:List Value}{os:Array Obj}(h:w.ownsRow base T 1 v n xs):(Sort.grow w os).ownsRow base T 1 v n xs:=by
 obtain⟨h1,h2⟩:=h;refine⟨h1,?_⟩;rcases h2 with h2|⟨g,cap,cur,hv,hb,hg,r⟩
 .grind
 .exact .inr ⟨g,cap,cur,hv,hb,by grind[Sort.heap_grow_old],r⟩
def Xr{w:World}{base:Nat}{T:TypeId}{sz n:Nat}{F:Nat->List Value}(h:lQ w base T sz (.slice none 0 0) n F):n=0:=by obtain⟨⟨-,h1⟩,-⟩:=h;grind
def aia(w:World)(base:Nat)(v:Value)(l:List Int)(h:lQ w base 3 1 v l.length (cJ l))(hb:base<=w.heap.size)(hl:l.length<4611686018427387904):
  Calls Tryz.prog 134 #[v] w λe w'=>e=.returned (.tuple #[])/\∃l':List Int,l'.length=l.length/\(∀x,x∈l'↔x∈l)/\lQ w' base 3 1 v l'.length (cJ l')/\Below base w w'/\l'=l.mergeSort λx y=>decide (x<=y):=by
 by_cases hv:v=.slice none 0 0
 .subst hv
  refine(Tryz.slices_Sort_int_none none 0 w).mono λe w' ⟨he,hw⟩=>⟨he,l,rfl,λ_=>Iff.rfl,by grind,by grind[Below.refl],by rw[eg (Xr h)];simp⟩
 .have hr:=Il.mp h
  obtain⟨g,cap,rfl,h1,h2,h3,h4,h5,h6⟩:=Lib.holds_of_ownsRow hr hv
  refine(Tryz.slices_Sort_int g 0 cap l w h6 h2 hl).mono ?_
  rintro e w' ⟨he,n,os,rfl⟩
  refine⟨he,l.mergeSort λx y=>decide (x<=y),by simp,λx=>List.mem_mergeSort,Il.mpr ?_,below_grow (Lib.below_putRow (Below.refl base w) h1) (by simp_all),rfl⟩
  refine ownsRow_grow ?_
  have:=Lib.ownsRow_putRow (q:=n) (k:=l.length) (ys:=l.mergeSort λx y=>decide (x<=y)) hr kc jp
  grind[List.length_mergeSort]
def Xt(w:World)(base:Nat)(v:Value)(l:List Int)(h:lQ w base 3 1 v l.length (cJ l))(hl:l.length<=9223372036854775807):
  Calls Tryz.prog 135 #[v] w λe w'=>∃v' l',e=.returned v'/\l'.length<=l.length/\(∀x,x∈l'↔x∈l)/\lQ w' base 3 1 v' l'.length (cJ l')/\Below base w w'/\l'=Lib.compact l/\(v=.slice none 0 0->v'=.slice none 0 0):=by
 by_cases hv:v=.slice none 0 0
 .subst hv
  refine(Tryz.slices_Compact_int_empty none 0 w).mono λe w' ⟨he,hw⟩=>⟨_,l,he,jp,λ_=>Iff.rfl,by grind,by grind[Below.refl],by rw[eg (Xr h)];rfl,λh=>h⟩
 .have hr:=Il.mp h
  obtain⟨g,cap,rfl,h1,h2,h3,h4,h5,h6⟩:=Lib.holds_of_ownsRow hr hv
  refine(Tryz.slices_Compact_int g 0 cap l w h6 hl h3).mono ?_
  rintro e w' ⟨he,q,rfl⟩
  have hle:=Lib.compact_length_le l
  refine⟨_,Lib.compact l,he,hle,λx=>mem_compact,Il.mpr ?_,Lib.below_putRow (Below.refl base w) h1,rfl,λh=>absurd h hv⟩
  grind[Lib.ownsRow_putRow,List.take_left]
def mks(l:List Aj)(k:Nat):List Int:=((l.take k).map λx=>x.k).filter λx=>x !=-1
def aib(l:List Aj):mks l 0=[]:=by rfl
def amP{l:List Aj}{k:Nat}(h:k<l.length)(h2:(ix l k).k≠-1):mks l (k+1)=mks l k++[(ix l k).k]:=by grind[mks,bC]
def arX{l:List Aj}{k:Nat}(h:k<l.length)(h2:(ix l k).k=-1):mks l (k+1)=mks l k:=by grind[mks,bC]
def amQ(l:List Aj)(k:Nat):(mks l k).length<=k:=by grind[Go.Proofs.Ins.mks]
def amR{a:gV}{c:Int}:c∈mks a.flatten a.flatten.length↔c≠-1/\EL a c=true:=by grind[mks,EL,memT]
def avq(w:World)(T:TypeId)(a:gV)(e:Ending)(w':World):Prop:=
 ∃v l,e=.returned v/\l.length<=a.flatten.length/\(∀c,c∈l↔c≠-1/\EL a c=true)/\lQ w' w.heap.size T 1 v l.length (cJ l)/\Below w.heap.size w w'/\l=wF a/\(l=[]->v=.slice none 0 0)
set_option maxRecDepth 100000 in
def Xu(p:Nat->Prop)(v:Value)(a:gV)(w:World)(hA:xu w p v a)(la:a.length<=140737488351232)(lf:a.flatten.length<=1000000):
  Calls Tryz.prog 91 #[.agg #[v]] w (avq w 3 a):=by
 have HC:=jx (λw' (h:xu w' p v a)=>Xq p v a w' h la lf)
 have HA:=jx hA
 have HM:=jx (λc=>amR (a:=a) (c:=c))
 have HY:=jx (λk h h2=>amP (l:=a.flatten) (k:=k) h h2)
 have HN:=jx (λk h h2=>arX (l:=a.flatten) (k:=k) h h2)
 have HL:=jx (amQ a.flatten)
 have H0:=jx (aib a.flatten)
 have HML:=jx (show wF a=Lib.compact ((mks a.flatten a.flatten.length).mergeSort λx y=>decide (x<=y)) by unfold wF mks;rw[bR])
 unfold avq
 clear hA
 generalize hmm:mks a.flatten=MK at*
 generalize hfl:a.flatten=fl at*
 clear hmm hfl
 generalize hN:fl.length=N at*
 go_enter Tryz.func91,Tryz.ntmps91
 go_wp2_with fail
 refine(HC.out _ (HA.out.on ((Below.refl _ _).alloc jp _))).mono ?_
 rintro e w1 ⟨v1,rfl,ho1,hb1⟩
 obtain⟨-,HB⟩:=ap1 hb1
 have HB:=jx HB
 have hz1:=HB.out.size
 have hsl:=ho1.sl
 obtain⟨a1,cap1,rfl,-,-⟩:=hsl.form
 have HSL:=jx hsl
 clear ho1 hb1 hsl HC HA
 go_wp2_with fail
 go_loopw [3,10] (λv i wr=>∃k:Nat,i=.int .i64 k/\k<=N/\lQ wr w1.heap.size 3 1 v (MK k).length (cJ (MK k))/\Below w1.heap.size w1 wr/\Hid (MK k=[]->v=.slice none 0 0)) (λ_ i _=>N-(intOf i).toNat)
 case atStart=>exact⟨0,rfl,jb,by rw[H0.out];exact lQ.nil _ _ _ _ _,Below.refl _ _,jx λ_=>rfl⟩
 case round=>
  obtain⟨k,rfl,hk,hown,hbel,HNV⟩:=hrel;have HO:=jx hown;have HBR:=jx hbel;have hsz:=hbel.size;by_cases hlt:k<N
  .obtain⟨b,off,rfl,-,-,-⟩:=HSL.out.get jb;have e0:=HSL.out.cellAt rfl hbel (i:=k) (j:=0) hlt jb;have e1:wr.cell? ⟨b,off+k*5+1,none⟩=some (Value.bool (ix fl k).b):=HSL.out.cellAt rfl hbel (i:=k) (j:=1) hlt jb;have e2:wr.cell? ⟨b,off+k*5+2,none⟩=some (Value.bool (ix fl k).a.n):=HSL.out.cellAt rfl hbel (i:=k) (j:=2) hlt jb;have e3:wr.cell? ⟨b,off+k*5+3,none⟩=some (Value.string (ix fl k).a.s):=HSL.out.cellAt rfl hbel (i:=k) (j:=3) hlt jb;have e4:wr.cell? ⟨b,off+k*5+4,none⟩=some (Value.string (ix fl k).a.d):=HSL.out.cellAt rfl hbel (i:=k) (j:=4) hlt jb;rw[cD]at e0;have e0':wr.cell? ⟨b,off+k*5,none⟩=some (Value.int .i64 (ix fl k).k):=e0;have HYK:=jx (HY.out k jb);have HNK:=jx (HN.out k jb);have hlk:=HL.out k;have i1:(0:Int)<=(k:Int):=jb;have i2:(k:Int)<(N:Int):=jb;clear e0 hown hbel HY HN HL HM;generalize avr:MK (k+1)=M1 at*;have HM1:=jx avr;generalize ax8:MK k=M0 at*;clear avr ax8;generalize (ix fl k).k=x at*;generalize (ix fl k).b=pb at*;generalize (ix fl k).a.n=an at*;generalize (ix fl k).a.s=as' at*;generalize (ix fl k).a.d=ad at*;by_cases hx:x=-1
   .have h1:(x !=-1)=false:=by simp[hx]
    have HX:=jx (HNK.out hx);clear HYK HNK;go_wp2;go_roundw
    case rel=>exact⟨k+1,by go_num,jb,by rw[HM1.out,HX.out];exact HO.out.below ((Below.refl _ _).alloc jp _) jp,HBR.out.alloc jb _,jx λh=>HNV.out (by rwa[HM1.out,HX.out]at h)⟩
    case measure=>simp[intOf];omega
   .have h1:(x !=-1)=true:=by simp[hx]
    have HX:=jx (HYK.out hx);have HO2:=jx (HO.out.below ((Below.refl wr.heap.size wr).alloc jp (.cells #[.int .i64 x,.bool pb,.bool an,.string as',.string ad] 97)) jp);have hz2:(wr.alloc (.cells #[.int .i64 x,.bool pb,.bool an,.string as',.string ad] 97)).heap.size=wr.heap.size+1:=by simp
    clear HYK HNK;go_wp2_with (refine MV _ _ 127 3 1 8 w1.heap.size _ _ _ [.int .i64 x] (by rfl) (by rfl) Tryz.underlying127 alj jb (by rfl) (by rfl) (by simp[Value.oneCell']) (by rw[World.size_alloc];rfl) HO2.out jb jb (by rw[World.size_alloc];omega) ?_;intro v9 w9 ho9 hb9;have HO9:=jx ho9;have HB9:=jx hb9;clear ho9 hb9)
    go_roundw
    case rel=>
     refine⟨k+1,by go_num,jb,?_,(HBR.out.alloc jb _).trans HB9.out,jx λh=>by rw[HM1.out,HX.out]at h;simp at h⟩;rw[HM1.out,HX.out,aD];exact HO9.out.congr λj hj=>amO _ _ j hj
    case measure=>simp[intOf];omega
  .obtain rfl:k=N:=jb;have hnl:decide ((k:Int)<(k:Int))=false:=by simp
   have hlk:=HL.out k;have HST:=jx (aia wr w1.heap.size u3 (MK k) hown jb jb);go_wp2_with fail;refine HST.out.mono ?_;rintro e w2 ⟨rfl,l2,hl2,hm2,ho2,hb2,hs2⟩;have HCP:=jx (Xt w2 w1.heap.size u3 l2 ho2 jb);have HB2:=jx (HBR.out.trans hb2);have HM2:=jx hm2;have HS2:=jx hs2;clear ho2 hb2 HST hm2 hown hbel hs2;go_wp2_with fail;refine HCP.out.mono ?_;rintro e w3 ⟨v3,l3,rfl,hl3,hm3,ho3,hb3,hc3,hn3⟩;have HO3:=jx ho3;have HM3:=jx hm3;have HB3:=jx (HB2.out.trans hb3);have HC3:=jx hc3;have HN3:=jx hn3;clear ho3 hm3 hb3 hc3 hn3;go_wp2;go_ret;exact⟨_,l3,rfl,jb,λc=>by rw[HM3.out,HM2.out,HM.out],HO3.out.mono jb,chain HB.out HB3.out jp,by rw[HC3.out,HS2.out,HML.out],λh=>HN3.out (HNV.out (List.eq_nil_iff_forall_not_mem.mpr λx hx=>by have:=(HM3.out x).mpr ((HM2.out x).mpr hx);rw[h]at this;cases this))⟩
end Go.Proofs.Ins
namespace Go.Proofs.Xe
open Go.RowKit Go.Proofs.Ins
theorem Xv:∀l:List Int,ones l.length (λi=>B.int .i64 (ix l i))=l.map (B.int .i64)
 |[]=>rfl
 |x::l=>by show [B.int .i64 x]++bH l.length (λi=>[B.int .i64 (ix l i)])=_;have:=Xv l;unfold ones at this;rw[this];rfl
theorem Xw(φ:Ph):∀l:List Int,kX φ (l.map (B.int .i64)) (l.map (Value.int .i64))
 |[]=>trivial
 |_::l=>⟨rfl,Xw φ l⟩
def aic(l:List Int)(σ:St):Option (V×St):=if l.length=0 then some (.c .aX,σ)else some (.c (.sl σ.aj 0 l.length .opn),⟨hset σ.h σ.aj ⟨ones l.length (λi=>.int .i64 (ix l i)),some (1,3)⟩,σ.aj+1⟩)
def acp{φ:Ph}:∀{n:Nat}{G:Nat->List B}{F:Nat->List Value},(∀i,i<n->kX φ (G i) (F i))->kX φ (bH n G) ((List.range n).flatMap F)
 |0,_,_,_=>trivial
 |n+1,G,F,h=>by rw[List.range_succ_eq_map,fo,gC];exact kX.append (h 0 jb) (acp λi hi=>h (i+1) jb)
def aie(l:List Aj)(σ:St):Option (V×St):=if l.length=0 then some (.c .aX,σ)else some (.c (.sl σ.aj 0 l.length .opn),⟨hset σ.h σ.aj ⟨bH l.length λi=>Az (ix l i),some (5,97)⟩,σ.aj+1⟩)
noncomputable section
open Classical in
def aif(args:List V)(σ:St):Option (V×St):=match args with
 |[.agg [v]]=>if h:∃a,dZ (λ_=>True) σ.h v a/\a.length<=1000000/\a.flatten.length<=1000000 then aic (wF (Classical.choose h)) σ else none
 |_=>none
open Classical in
def aii(args:List V)(σ:St):Option (V×St):=match args with
 |[.c v]=>if h:∃a,dZ (λ_=>True) σ.h v a/\a.length<=1000000/\a.flatten.length<=1000000 then aie (Classical.choose h).flatten σ else none
 |_=>none
def aij(f:Nat)(args:List V)(σ:St):Option (V×St):=
 if f=133 then aii args σ
 else if f=91 then aif args σ
 else none
end
def amS{p:Nat->Prop}{σ:St}{v:B}{a:gV}(ha:dZ p σ.h v a)(h1:a.length<=1000000)(h2:a.flatten.length<=1000000):aif [.agg [v]] σ=aic (wF a) σ:=by
 have h:∃a,dZ (λ_=>True) σ.h v a/\a.length<=1000000/\a.flatten.length<=1000000:=⟨a,ha.keep (λ_ _=>rfl) λ_ _=>trivial,h1,h2⟩
 unfold aif;dsimp only;rw[dif_pos h,(Classical.choose_spec h).1.uniq ha]
def aik{args:List V}{σ σ':St}{v:V}(h:aif args σ=some (v,σ')):∃t a,args=[.agg [t]]/\aic (wF a) σ=some (v,σ')/\dZ (λ_=>True) σ.h t a/\a.length<=1000000/\a.flatten.length<=1000000:=by
 unfold aif at h;split at h
 .next t=>
  split at h
  .grind
  .cases h
 .cases h
def amT{p:Nat->Prop}{σ:St}{v:B}{a:gV}(ha:dZ p σ.h v a)(h1:a.length<=1000000)(h2:a.flatten.length<=1000000):aii [.c v] σ=aie a.flatten σ:=by
 have h:∃a,dZ (λ_=>True) σ.h v a/\a.length<=1000000/\a.flatten.length<=1000000:=⟨a,ha.keep (λ_ _=>rfl) λ_ _=>trivial,h1,h2⟩
 unfold aii;dsimp only;rw[dif_pos h,(Classical.choose_spec h).1.uniq ha]
def ail{args:List V}{σ σ':St}{v:V}(h:aii args σ=some (v,σ')):∃t a,args=[.c t]/\aie a.flatten σ=some (v,σ')/\dZ (λ_=>True) σ.h t a/\a.length<=1000000/\a.flatten.length<=1000000:=by
 unfold aii at h;split at h
 .next t=>
  split at h
  .grind
  .cases h
 .cases h
def acr{φ:Ph}{bJ:Array Value}{x:V}(h:Hw φ [x] bJ.toList):∃u,bJ= #[u]/\RV φ x u:=by
 obtain⟨l⟩:=bJ;match l,h with
 |[u],h=>exact⟨u,rfl,h.1⟩
def amU(f:Nat)(args:List V)(σ:St)(v:V)(σ':St)(h:aij f args σ=some (v,σ')):okF Tryz.prog f/\∀(N:Nat) (w0:World) (φ:Ph) (w:World) (bJ:Array Value),Rel N w0 φ σ w->Hw φ args bJ.toList->
  Calls Tryz.prog f bJ w λe w'=>∃cv,e=.returned cv/\∃φ',Ext σ.aj φ φ'/\Rel N w0 φ' σ' w'/\RV φ' v cv/\σ.aj<=σ'.aj:=by
 unfold aij at h
 split at h
 .next e=>
  subst e
  obtain⟨t,a,rfl,h3,h1,la,lf⟩:=ail h
  refine⟨wX (by kernel_rfl),λN w0 φ w bJ hR ha=>?_⟩
  obtain⟨u,rfl,hu⟩:=acr ha
  refine(Ik (InW w) u a w (h1.un hR hu) jb lf).mono ?_
  rintro e w' ⟨v',rfl,ho,hb,hz⟩
  generalize a.flatten=l at*
  unfold aie at h3
  split at h3
  .next h0=>
   cases h3
   exact⟨_,rfl,φ,Ext.refl _ _,hR.below hb,hz h0,jp⟩
  .next h0=>
   cases h3
   obtain⟨⟨-,h4⟩,-⟩:=ho
   rcases h4 with⟨-,h4⟩|⟨c,cap,cur,rfl,hc,hg,hnc,hm,hs,hx⟩
   .omega
   .have hN:σ.new ⟨bH l.length λi=>Az (ix l i),some (5,97)⟩=some (σ.aj,⟨hset σ.h σ.aj ⟨bH l.length λi=>Az (ix l i),some (5,97)⟩,σ.aj+1⟩):=jS _ _
    have hol:(bH l.length λi=>Az (ix l i)).length=l.length*5:=oQ λ_=>rfl
    have hcl:c<w'.heap.size:=(eO.mp hg).1
    refine⟨_,rfl,_,wV φ σ.aj (c,cap),(hR.below hb).new hN (w':=w') ⟨rfl,rfl,rfl,jp,λ_ _ _=>rfl⟩ (az hR.size hc) hcl (λi p hi _ e=>?_) (.inl ⟨D8 jj,cur,97,hg,?_,?_,λe t he=>?_⟩),.inl ⟨(c,cap),cap,gX _ _ _,rfl,hnc,?_,rfl,rfl⟩,by simp⟩
    .have:=hR.lo i p hi
     omega
    .show kX φ (bH l.length λi=>Az (ix l i)) (cur.toList.take (bH l.length λi=>Az (ix l i)).length)
     rw[hol,hx]
     exact acp λi _=>⟨rfl,rfl,rfl,rfl,rfl,trivial⟩
    .grind
    .grind
    grind[maxLen]
 .split at h
  .next e=>
   subst e
   obtain⟨t,a,rfl,h3,h1,la,lf⟩:=aik h
   refine⟨wX (by kernel_rfl),λN w0 φ w bJ hR ha=>?_⟩
   obtain⟨u,rfl,hu⟩:=acr ha
   obtain⟨r,rfl,hr⟩:=hu
   obtain⟨rl⟩:=r
   match rl,hr with
   |[tv],⟨ht,_⟩=>
    refine(Xu (InW w) tv a w (h1.un hR ht) jb lf).mono ?_
    rintro e w' ⟨v',l,rfl,-,-,ho,hb,hl,hn⟩
    rw[<-hl]at h3
    unfold aic at h3
    split at h3
    .next h0=>
     cases h3
     exact⟨_,rfl,φ,Ext.refl _ _,hR.below hb,hn (eg h0),jp⟩
    .next h0=>
     cases h3
     obtain⟨⟨-,h4⟩,-⟩:=ho
     rcases h4 with⟨-,h4⟩|⟨c,cap,cur,rfl,hc,hg,hnc,hm,hs,hx⟩
     .omega
     .have hN:σ.new ⟨ones l.length (λi=>.int .i64 (ix l i)),some (1,3)⟩=some (σ.aj,⟨hset σ.h σ.aj ⟨ones l.length (λi=>.int .i64 (ix l i)),some (1,3)⟩,σ.aj+1⟩):=jS _ _
      rw[aco,ft]at hx
      have hol:(ones l.length λi=>B.int .i64 (ix l i)).length=l.length:=by grind[NY]
      have hcl:c<w'.heap.size:=(eO.mp hg).1
      refine⟨_,rfl,_,wV φ σ.aj (c,cap),(hR.below hb).new hN (w':=w') ⟨rfl,rfl,rfl,jp,λ_ _ _=>rfl⟩ (az hR.size hc) hcl (λi p hi _ e=>?_) (.inl ⟨D8 jj,cur,3,hg,?_,?_,λe t he=>?_⟩),.inl ⟨(c,cap),cap,gX _ _ _,rfl,hnc,?_,rfl,rfl⟩,by simp⟩
      .have:=hR.lo i p hi
       omega
      .grind[Xv,Xw]
      .grind
      .grind
      grind[maxLen]
  .cases h
def amV(f:Nat)(args:List V)(σ:St):Option (V×St):=aij f args σ
def amW(f:Nat)(args:List V)(σ:St)(v:V)(σ':St)(h:amV f args σ=some (v,σ')):okF Tryz.prog f/\∀(N:Nat) (w0:World) (φ:Ph) (w:World) (bJ:Array Value),Rel N w0 φ σ w->Hw φ args bJ.toList->
  Calls Tryz.prog f bJ w λe w'=>∃cv,e=.returned cv/\∃φ',Ext σ.aj φ φ'/\Rel N w0 φ' σ' w'/\RV φ' v cv/\σ.aj<=σ'.aj:=amU f args σ v σ' h
abbrev amX:List Nat:=[76
 ,39
 ,81
 ,40
 ,83
 ,82
 ,84
 ,85
 ,49
 ,48
 ,26
 ,41
 ,75
 ,37
 ,45
 ,151
 ,46
 ,23
 ,38
 ,17
 ,98
 ,44
 ,22
 ,60
 ,117
 ,115
 ,16
 ,136
 ,59
 ,165
 ]
def ae6:Nat->List V->St->Option (V×St):=(Eb amX).Wq
def acs{f:Nat}(h:amX.contains f=false)(args:List V)(σ:St):ae6 f args σ=none:=by unfold ae6 Eb;dsimp only;rw[h];rfl
class avs (E:Env):Prop where
 o:∀f args σ r,ae6 f args σ=some r->E.Wq f args σ=some r
instance {E:Env}{f:Nat} [h:avs E] [m:Mm f amX]:jG E f:=⟨λargs v σ hv=>h.o f args σ _ (by unfold ae6;exact jG.o (E:=Eb amX) args v σ hv)⟩
def amY(f:Nat):Prop:=okF Tryz.prog f/\∀w,Calls Tryz.prog f #[] w λe w'=>e=.returned (.bool true)/\Below w.heap.size w w'
def awN:List Nat:=[
 1000000]
noncomputable section
open Classical in
def avt(f:Nat)(args:List V)(σ:St):Option (V×St):=bif awN.contains f then(match args with|[]=>if amY f then some (.c (.bool true),σ)else none|_=>none)else none
def Xx(f:Nat)(args:List V)(σ:St):Option (V×St):=match ae6 f args σ with
 |some r=>some r
 |none=>match amV f args σ with
  |some r=>some r
  |none=>avt f args σ
end
class aax (E:Env):Prop where
 a:∀f args σ r,Xx f args σ=some r->E.Wq f args σ=some r
instance {E:Env} [h:aax E]:avs E:=⟨λf args σ r hv=>h.a f args σ r (by unfold Xx;rw[hv])⟩
def Q7{E:Env}[hE:aax E]{f:Nat}{args:List V}{v:V}{σ σ2:St}{K:V->St->Prop}(h:Xx f args σ=some (v,σ2)):aC E f args σ K=K v σ2:=by
 refine propext ⟨λ⟨n,v',σ',h1,h2⟩=>?_,λhk=>WW (hE.a f args σ _ h) hk⟩;have h3:iQ E 1 f args σ=some (v,σ2):=by rw[iQ];unfold Hu;rw[hE.a f args σ _ h]
 have a:=nI (show n<=n+1 by omega) f args σ _ h1;have b:=nI (show 1<=n+1 by omega) f args σ _ h3;rw[a]at b;cases b;exact h2
section
variable {E:Env} [aax E] {σ:St} {K:V→St→Prop}
end
end Go.Proofs.Xe
namespace Go.Proofs.Xe
open Go.Proofs
set_option maxRecDepth 1000000
set_option maxHeartbeats 8000000
def EN:Env:=⟨tF Tryz.prog,Xx⟩
instance azP:aax EN:=⟨λ_ _ _ _ h=>h⟩
structure iY(k:Nat) where
 a:AF
 g:tG Tryz.prog k=some a:=by conv=>(lhs;reduce;simp only[apb])
 i:WM Tryz.prog k a=true:=by kernel_rfl
 o:∀args σ,EN.Wq k args σ=none:=by exact λ_ _=>rfl
def iY.h{k:Nat}(b:iY k):EN.fns k=some b.a:=apa b.g b.i
def mQ:iY 8:=.mk _
def F7:iY 12:=.mk _
def sU:iY 13:=.mk _
def sV:iY 14:=.mk _
def Dc:iY 18:=.mk _
def yV:iY 19:=.mk _
def xw:iY 24:=.mk _
def AA:iY 25:=.mk _
def F8:iY 28:=.mk _
def N9:iY 29:=.mk _
def qN:iY 30:=.mk _
def sW:iY 31:=.mk _
def jY:iY 32:=.mk _
def lu:iY 33:=.mk _
def nP:iY 42:=.mk _
def Df:iY 43:=.mk _
def yX:iY 47:=.mk _
def Js:iY 50:=.mk _
def F9:iY 51:=.mk _
def qO:iY 52:=.mk _
def mV:iY 53:=.mk _
def uZ:iY 54:=.mk _
def iJ:iY 55:=.mk _
def jl:iY 56:=.mk _
def jZ:iY 57:=.mk _
def ku:iY 58:=.mk _
def oq:iY 61:=.mk _
def vg:iY 62:=.mk _
def lT:iY 63:=.mk _
def jH:iY 64:=.mk _
def sZ:iY 65:=.mk _
def kC:iY 66:=.mk _
def qP:iY 67:=.mk _
def lU:iY 68:=.mk _
def lV:iY 69:=.mk _
def vk:iY 70:=.mk _
def jI:iY 71:=.mk _
def tq:iY 72:=.mk _
def Dh:iY 73:=.mk _
def tu:iY 86:=.mk _
def Jt:iY 87:=.mk _
def jm:iY 90:=.mk _
def pJ:iY 92:=.mk _
def nM:iY 93:=.mk _
def vw:iY 94:=.mk _
def lC:iY 95:=.mk _
def lW:iY 96:=.mk _
def lX:iY 97:=.mk _
def gY:iY 99:=.mk _
def jJ:iY 100:=.mk _
def qQ:iY 101:=.mk _
def vC:iY 102:=.mk _
def qU:iY 103:=.mk _
def kD:iY 104:=.mk _
def jK:iY 105:=.mk _
def iO:iY 106:=.mk _
def ou:iY 107:=.mk _
def tH:iY 108:=.mk _
def vF:iY 109:=.mk _
def xA:iY 110:=.mk _
def qV:iY 111:=.mk _
def eX:iY 112:=.mk _
def xB:iY 113:=.mk _
def jf:iY 114:=.mk _
def lH:iY 116:=.mk _
def FH:iY 118:=.mk _
def qW:iY 126:=.mk _
def Gf:iY 127:=.mk _
def eH:iY 131:=.mk _
def iZ:iY 132:=.mk _
def kF:iY 137:=.mk _
def fM:iY 138:=.mk _
def kG:iY 139:=.mk _
def kH:iY 140:=.mk _
def kJ:iY 141:=.mk _
def jg:iY 142:=.mk _
def vG:iY 143:=.mk _
def jo:iY 144:=.mk _
def vH:iY 145:=.mk _
def xC:iY 146:=.mk _
def qX:iY 147:=.mk _
def dN:iY 148:=.mk _
def tJ:iY 149:=.mk _
def pK:iY 150:=.mk _
def lI:iY 152:=.mk _
def iK:iY 153:=.mk _
def vI:iY 166:=.mk _
def Di:iY 167:=.mk _
def fO:iY 171:=.mk _
def xE:iY 175:=.mk _
def vJ:iY 176:=.mk _
def lJ:iY 177:=.mk _
def nN:iY 178:=.mk _
def lY:iY 179:=.mk _
def lZ:iY 180:=.mk _
def mW:iY 181:=.mk _
def l7:iY 182:=.mk _
def yY:iY 189:=.mk _
def xG:iY 204:=.mk _
def gW:iY 205:=.mk _
def xH:iY 206:=.mk _
def AB:iY 210:=.mk _
end Go.Proofs.Xe
end
