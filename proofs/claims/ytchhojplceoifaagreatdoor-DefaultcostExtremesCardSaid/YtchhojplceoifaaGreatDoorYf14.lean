import Derived.Test.YtchhojplceoifaaGreatDoorYf13
import Derived.Lib.OwnBridge
set_option linter.all false
set_option maxHeartbeats 8000000
noncomputable section
namespace Go.Proofs.Ins
open Go.RowKit
def DV{F:Nat->List Value}{sz:Nat}:∀(n:Nat),(∀i,i<n->(F i).length=sz)->((List.range n).flatMap F).length=n*sz
 |0,_=>by simp
 |n+1,h=>by rw[fj,cR,aD,DV n (λi hi=>h i jb)];simp[h n jb,cj]
def cJ(l:List Int)(j:Nat):List Value:=[.int .i64 (l.getD j 0)]
def acZ(l:List Int):(List.range l.length).flatMap (cJ l)=l.map (Value.int .i64):=by
 apply List.ext_getElem?;intro j;by_cases h:j<l.length
 .have:=zi (sz:=1) (F:=cJ l) l.length (λi _=>rfl) j 0 h jb;grind[cJ]
 .rw[List.getElem?_eq_none,List.getElem?_eq_none]
  .simpa using h
  .rw[DV (sz:=1) l.length (λi _=>rfl)];omega
def anB(l:List Int)(x:Int)(j:Nat)(hj:j<l.length+1):(if j<l.length then cJ l j else [.int .i64 x])=cJ (l++[x]) j:=by grind[cJ]
def IV{w:World}{base:Nat}{T:TypeId}{v:Value}{l:List Int}:mW w base T 1 v l.length (cJ l)↔w.ownsRow base T 1 v l.length (l.map (Value.int .i64)):=by unfold mW;rw[acZ];exact⟨λh=>h.1,λh=>⟨h,λ_ _=>rfl⟩⟩
def below_grow{B:Nat}{w0 w:World}{os:Array Obj}(h:Below B w0 w)(hB:B<=w.heap.size):Below B w0 (Sort.grow w os):=
 ⟨h.os,h.tape,h.output,by have:=h.size;grind[Sort.grow],λk hk=>by rw[<-h.block k hk];grind[Sort.heap_grow_old]⟩
def ownsRow_grow{w:World}{base:Nat}{T:TypeId}{v:Value}{n:Nat}{xs:List Value}{os:Array Obj}(h:w.ownsRow base T 1 v n xs):(Sort.grow w os).ownsRow base T 1 v n xs:=by
 obtain⟨h1,h2⟩:=h;refine⟨h1,?_⟩;rcases h2 with h2|⟨g,cap,cur,hv,hb,hg,r⟩
 .grind
 .exact .inr ⟨g,cap,cur,hv,hb,by grind[Sort.heap_grow_old],r⟩
def Yd{w:World}{base:Nat}{T:TypeId}{sz n:Nat}{F:Nat->List Value}(h:mW w base T sz (.slice none 0 0) n F):n=0:=by obtain⟨⟨-,h1⟩,-⟩:=h;grind
def aiP(w:World)(base:Nat)(v:Value)(l:List Int)(h:mW w base 3 1 v l.length (cJ l))(hb:base<=w.heap.size)(hl:l.length<4611686018427387904):
  Calls Tryz.prog 182 #[v] w λe w'=>e=.returned (.tuple #[])/\∃l':List Int,l'.length=l.length/\(∀x,x∈l'↔x∈l)/\mW w' base 3 1 v l'.length (cJ l')/\Below base w w'/\l'=l.mergeSort λx y=>decide (x<=y):=by
 by_cases hv:v=.slice none 0 0
 .subst hv
  refine(Tryz.slices_Sort_int_none none 0 w).mono λe w' ⟨he,hw⟩=>⟨he,l,rfl,λ_=>Iff.rfl,by grind,by grind[Below.refl],by rw[ff (Yd h)];simp⟩
 .have hr:=IV.mp h
  obtain⟨g,cap,rfl,h1,h2,h3,h4,h5,h6⟩:=Lib.holds_of_ownsRow hr hv
  refine(Tryz.slices_Sort_int g 0 cap l w h6 h2 hl).mono ?_
  rintro e w' ⟨he,n,os,rfl⟩
  refine⟨he,l.mergeSort λx y=>decide (x<=y),by simp,λx=>List.mem_mergeSort,IV.mpr ?_,below_grow (Lib.below_putRow (Below.refl base w) h1) (by simp_all),rfl⟩
  refine ownsRow_grow ?_
  have:=Lib.ownsRow_putRow (q:=n) (k:=l.length) (ys:=l.mergeSort λx y=>decide (x<=y)) hr kc jp
  grind[List.length_mergeSort]
def Ye(w:World)(base:Nat)(v:Value)(l:List Int)(h:mW w base 3 1 v l.length (cJ l))(hl:l.length<=9223372036854775807):
  Calls Tryz.prog 183 #[v] w λe w'=>∃v' l',e=.returned v'/\l'.length<=l.length/\(∀x,x∈l'↔x∈l)/\mW w' base 3 1 v' l'.length (cJ l')/\Below base w w'/\l'=Lib.compact l/\(v=.slice none 0 0->v'=.slice none 0 0):=by
 by_cases hv:v=.slice none 0 0
 .subst hv
  refine(Tryz.slices_Compact_int_empty none 0 w).mono λe w' ⟨he,hw⟩=>⟨_,l,he,jp,λ_=>Iff.rfl,by grind,by grind[Below.refl],by rw[ff (Yd h)];rfl,λh=>h⟩
 .have hr:=IV.mp h
  obtain⟨g,cap,rfl,h1,h2,h3,h4,h5,h6⟩:=Lib.holds_of_ownsRow hr hv
  refine(Tryz.slices_Compact_int g 0 cap l w h6 hl h3).mono ?_
  rintro e w' ⟨he,q,rfl⟩
  have hle:=Lib.compact_length_le l
  refine⟨_,Lib.compact l,he,hle,λx=>mem_compact,IV.mpr ?_,Lib.below_putRow (Below.refl base w) h1,rfl,λh=>absurd h hv⟩
  grind[Lib.ownsRow_putRow,List.take_left]
def mks(l:List yw)(k:Nat):List Int:=((l.take k).map λx=>x.k).filter λx=>x !=-1
def aiQ(l:List yw):mks l 0=[]:=by rfl
def anC{l:List yw}{k:Nat}(h:k<l.length)(h2:(ix l k).k≠-1):mks l (k+1)=mks l k++[(ix l k).k]:=by grind[mks,bU]
def as1{l:List yw}{k:Nat}(h:k<l.length)(h2:(ix l k).k=-1):mks l (k+1)=mks l k:=by grind[mks,bU]
def anD(l:List yw)(k:Nat):(mks l k).length<=k:=by grind[Go.Proofs.Ins.mks]
def anE{a:fD}{c:Int}:c∈mks a.flatten a.flatten.length↔c≠-1/\OU a c=true:=by grind[mks,OU,memT]
def awI(w:World)(T:TypeId)(a:fD)(e:Ending)(w':World):Prop:=
 ∃v l,e=.returned v/\l.length<=a.flatten.length/\(∀c,c∈l↔c≠-1/\OU a c=true)/\mW w' w.heap.size T 1 v l.length (cJ l)/\Below w.heap.size w w'/\l=xB a/\(l=[]->v=.slice none 0 0)
set_option maxRecDepth 100000 in
def Yf(p:Nat->Prop)(v:Value)(a:fD)(w:World)(hA:yx w p v a)(la:a.length<=140737488351232)(lf:a.flatten.length<=1000000):
  Calls Tryz.prog 140 #[.agg #[v]] w (awI w 3 a):=by
 have HC:=jx (λw' (h:yx w' p v a)=>Yc p v a w' h la lf)
 have HA:=jx hA
 have HM:=jx (λc=>anE (a:=a) (c:=c))
 have HY:=jx (λk h h2=>anC (l:=a.flatten) (k:=k) h h2)
 have HN:=jx (λk h h2=>as1 (l:=a.flatten) (k:=k) h h2)
 have HL:=jx (anD a.flatten)
 have H0:=jx (aiQ a.flatten)
 have HML:=jx (show xB a=Lib.compact ((mks a.flatten a.flatten.length).mergeSort λx y=>decide (x<=y)) by unfold xB mks;rw[cC])
 unfold awI
 clear hA
 generalize hmm:mks a.flatten=MK at*
 generalize hfl:a.flatten=fl at*
 clear hmm hfl
 generalize hN:fl.length=N at*
 go_enter Tryz.func140,Tryz.ntmps140
 go_wp2_with fail
 refine(HC.out _ (HA.out.on ((Below.refl _ _).alloc jp _))).mono ?_
 rintro e w1 ⟨v1,rfl,ho1,hb1⟩
 obtain⟨-,HB⟩:=aq0 hb1
 have HB:=jx HB
 have hz1:=HB.out.size
 have hsl:=ho1.sl
 obtain⟨a1,cap1,rfl,-,-⟩:=hsl.form
 have HSL:=jx hsl
 clear ho1 hb1 hsl HC HA
 go_wp2_with fail
 go_loopw [3,10] (λv i wr=>∃k:Nat,i=.int .i64 k/\k<=N/\mW wr w1.heap.size 3 1 v (MK k).length (cJ (MK k))/\Below w1.heap.size w1 wr/\Hid (MK k=[]->v=.slice none 0 0)) (λ_ i _=>N-(intOf i).toNat)
 case atStart=>exact⟨0,rfl,jb,by rw[H0.out];exact mW.nil _ _ _ _ _,Below.refl _ _,jx λ_=>rfl⟩
 case round=>
  obtain⟨k,rfl,hk,hown,hbel,HNV⟩:=hrel;have HO:=jx hown;have HBR:=jx hbel;have hsz:=hbel.size;by_cases hlt:k<N
  .obtain⟨b,off,rfl,-,-,-⟩:=HSL.out.get jb;have e0:=HSL.out.cellAt rfl hbel (i:=k) (j:=0) hlt jb;have e1:wr.cell? ⟨b,off+k*5+1,none⟩=some (Value.bool (ix fl k).b):=HSL.out.cellAt rfl hbel (i:=k) (j:=1) hlt jb;have e2:wr.cell? ⟨b,off+k*5+2,none⟩=some (Value.bool (ix fl k).a.n):=HSL.out.cellAt rfl hbel (i:=k) (j:=2) hlt jb;have e3:wr.cell? ⟨b,off+k*5+3,none⟩=some (Value.string (ix fl k).a.s):=HSL.out.cellAt rfl hbel (i:=k) (j:=3) hlt jb;have e4:wr.cell? ⟨b,off+k*5+4,none⟩=some (Value.string (ix fl k).a.d):=HSL.out.cellAt rfl hbel (i:=k) (j:=4) hlt jb;rw[cB]at e0;have e0':wr.cell? ⟨b,off+k*5,none⟩=some (Value.int .i64 (ix fl k).k):=e0;have HYK:=jx (HY.out k jb);have HNK:=jx (HN.out k jb);have hlk:=HL.out k;have i1:(0:Int)<=(k:Int):=jb;have i2:(k:Int)<(N:Int):=jb;clear e0 hown hbel HY HN HL HM;generalize awJ:MK (k+1)=M1 at*;have HM1:=jx awJ;generalize azj:MK k=M0 at*;clear awJ azj;generalize (ix fl k).k=x at*;generalize (ix fl k).b=pb at*;generalize (ix fl k).a.n=an at*;generalize (ix fl k).a.s=as' at*;generalize (ix fl k).a.d=ad at*;by_cases hx:x=-1
   .have h1:(x !=-1)=false:=by simp[hx]
    have HX:=jx (HNK.out hx);clear HYK HNK;go_wp2;go_roundw
    case rel=>exact⟨k+1,by go_num,jb,by rw[HM1.out,HX.out];exact HO.out.below ((Below.refl _ _).alloc jp _) jp,HBR.out.alloc jb _,jx λh=>HNV.out (by rwa[HM1.out,HX.out]at h)⟩
    case measure=>simp[intOf];omega
   .have h1:(x !=-1)=true:=by simp[hx]
    have HX:=jx (HYK.out hx);have HO2:=jx (HO.out.below ((Below.refl wr.heap.size wr).alloc jp (.cells #[.int .i64 x,.bool pb,.bool an,.string as',.string ad] 126)) jp);have hz2:(wr.alloc (.cells #[.int .i64 x,.bool pb,.bool an,.string as',.string ad] 126)).heap.size=wr.heap.size+1:=by simp
    clear HYK HNK;go_wp2_with (refine NY _ _ 31 3 1 8 w1.heap.size _ _ _ [.int .i64 x] (by rfl) (by rfl) Tryz.underlying31 al5 jb (by rfl) (by rfl) (by simp[Value.oneCell']) (by rw[World.size_alloc];rfl) HO2.out jb jb (by rw[World.size_alloc];omega) ?_;intro v9 w9 ho9 hb9;have HO9:=jx ho9;have HB9:=jx hb9;clear ho9 hb9)
    go_roundw
    case rel=>
     refine⟨k+1,by go_num,jb,?_,(HBR.out.alloc jb _).trans HB9.out,jx λh=>by rw[HM1.out,HX.out]at h;simp at h⟩;rw[HM1.out,HX.out,aD];exact HO9.out.congr λj hj=>anB _ _ j hj
    case measure=>simp[intOf];omega
  .obtain rfl:k=N:=jb;have hnl:decide ((k:Int)<(k:Int))=false:=by simp
   have hlk:=HL.out k;have HST:=jx (aiP wr w1.heap.size u3 (MK k) hown jb jb);go_wp2_with fail;refine HST.out.mono ?_;rintro e w2 ⟨rfl,l2,hl2,hm2,ho2,hb2,hs2⟩;have HCP:=jx (Ye w2 w1.heap.size u3 l2 ho2 jb);have HB2:=jx (HBR.out.trans hb2);have HM2:=jx hm2;have HS2:=jx hs2;clear ho2 hb2 HST hm2 hown hbel hs2;go_wp2_with fail;refine HCP.out.mono ?_;rintro e w3 ⟨v3,l3,rfl,hl3,hm3,ho3,hb3,hc3,hn3⟩;have HO3:=jx ho3;have HM3:=jx hm3;have HB3:=jx (HB2.out.trans hb3);have HC3:=jx hc3;have HN3:=jx hn3;clear ho3 hm3 hb3 hc3 hn3;go_wp2;go_ret;exact⟨_,l3,rfl,jb,λc=>by rw[HM3.out,HM2.out,HM.out],HO3.out.mono jb,chain HB.out HB3.out jp,by rw[HC3.out,HS2.out,HML.out],λh=>HN3.out (HNV.out (List.eq_nil_iff_forall_not_mem.mpr λx hx=>by have:=(HM3.out x).mpr ((HM2.out x).mpr hx);rw[h]at this;cases this))⟩
end Go.Proofs.Ins
namespace Go.Proofs.Xe
open Go.RowKit Go.Proofs.Ins
theorem Yg:∀l:List Int,ones l.length (λi=>B.int .i64 (ix l i))=l.map (B.int .i64)
 |[]=>rfl
 |x::l=>by show [B.int .i64 x]++bC l.length (λi=>[B.int .i64 (ix l i)])=_;have:=Yg l;unfold ones at this;rw[this];rfl
theorem Yh(φ:Ph):∀l:List Int,lU φ (l.map (B.int .i64)) (l.map (Value.int .i64))
 |[]=>trivial
 |_::l=>⟨rfl,Yh φ l⟩
def aiR(l:List Int)(σ:St):Option (V×St):=if l.length=0 then some (.c .aP,σ)else some (.c (.sl σ.aj 0 l.length .opn),⟨hset σ.h σ.aj ⟨ones l.length (λi=>.int .i64 (ix l i)),some (1,3)⟩,σ.aj+1⟩)
def ac1{φ:Ph}:∀{n:Nat}{G:Nat->List B}{F:Nat->List Value},(∀i,i<n->lU φ (G i) (F i))->lU φ (bC n G) ((List.range n).flatMap F)
 |0,_,_,_=>trivial
 |n+1,G,F,h=>by rw[List.range_succ_eq_map,gm,iu];exact lU.append (h 0 jb) (ac1 λi hi=>h (i+1) jb)
def aiS(l:List yw)(σ:St):Option (V×St):=if l.length=0 then some (.c .aP,σ)else some (.c (.sl σ.aj 0 l.length .opn),⟨hset σ.h σ.aj ⟨bC l.length λi=>Ae (ix l i),some (5,126)⟩,σ.aj+1⟩)
noncomputable section
open Classical in
def aiT(args:List V)(σ:St):Option (V×St):=match args with
 |[.agg [v]]=>if h:∃a,dP (λ_=>True) σ.h v a/\a.length<=1000000/\a.flatten.length<=1000000 then aiR (xB (Classical.choose h)) σ else none
 |_=>none
open Classical in
def aiU(args:List V)(σ:St):Option (V×St):=match args with
 |[.c v]=>if h:∃a,dP (λ_=>True) σ.h v a/\a.length<=1000000/\a.flatten.length<=1000000 then aiS (Classical.choose h).flatten σ else none
 |_=>none
def aiV(f:Nat)(args:List V)(σ:St):Option (V×St):=
 if f=181 then aiU args σ
 else if f=140 then aiT args σ
 else none
end
def anF{p:Nat->Prop}{σ:St}{v:B}{a:fD}(ha:dP p σ.h v a)(h1:a.length<=1000000)(h2:a.flatten.length<=1000000):aiT [.agg [v]] σ=aiR (xB a) σ:=by
 have h:∃a,dP (λ_=>True) σ.h v a/\a.length<=1000000/\a.flatten.length<=1000000:=⟨a,ha.keep (λ_ _=>rfl) λ_ _=>trivial,h1,h2⟩
 unfold aiT;dsimp only;rw[dif_pos h,(Classical.choose_spec h).1.uniq ha]
def aiW{args:List V}{σ σ':St}{v:V}(h:aiT args σ=some (v,σ')):∃t a,args=[.agg [t]]/\aiR (xB a) σ=some (v,σ')/\dP (λ_=>True) σ.h t a/\a.length<=1000000/\a.flatten.length<=1000000:=by
 unfold aiT at h;split at h
 .next t=>
  split at h
  .grind
  .cases h
 .cases h
def anG{p:Nat->Prop}{σ:St}{v:B}{a:fD}(ha:dP p σ.h v a)(h1:a.length<=1000000)(h2:a.flatten.length<=1000000):aiU [.c v] σ=aiS a.flatten σ:=by
 have h:∃a,dP (λ_=>True) σ.h v a/\a.length<=1000000/\a.flatten.length<=1000000:=⟨a,ha.keep (λ_ _=>rfl) λ_ _=>trivial,h1,h2⟩
 unfold aiU;dsimp only;rw[dif_pos h,(Classical.choose_spec h).1.uniq ha]
def aiX{args:List V}{σ σ':St}{v:V}(h:aiU args σ=some (v,σ')):∃t a,args=[.c t]/\aiS a.flatten σ=some (v,σ')/\dP (λ_=>True) σ.h t a/\a.length<=1000000/\a.flatten.length<=1000000:=by
 unfold aiU at h;split at h
 .next t=>
  split at h
  .grind
  .cases h
 .cases h
def ac2{φ:Ph}{bP:Array Value}{x:V}(h:Ir φ [x] bP.toList):∃u,bP= #[u]/\RV φ x u:=by
 obtain⟨l⟩:=bP;match l,h with
 |[u],h=>exact⟨u,rfl,h.1⟩
def anH(f:Nat)(args:List V)(σ:St)(v:V)(σ':St)(h:aiV f args σ=some (v,σ')):okF Tryz.prog f/\∀(N:Nat) (w0:World) (φ:Ph) (w:World) (bP:Array Value),Rel N w0 φ σ w->Ir φ args bP.toList->
  Calls Tryz.prog f bP w λe w'=>∃cv,e=.returned cv/\∃φ',Ext σ.aj φ φ'/\Rel N w0 φ' σ' w'/\RV φ' v cv/\σ.aj<=σ'.aj:=by
 unfold aiV at h
 split at h
 .next e=>
  subst e
  obtain⟨t,a,rfl,h3,h1,la,lf⟩:=aiX h
  refine⟨zY (by kernel_rfl),λN w0 φ w bP hR ha=>?_⟩
  obtain⟨u,rfl,hu⟩:=ac2 ha
  refine(IU (InW w) u a w (h1.un hR hu) jb lf).mono ?_
  rintro e w' ⟨v',rfl,ho,hb,hz⟩
  generalize a.flatten=l at*
  unfold aiS at h3
  split at h3
  .next h0=>
   cases h3
   exact⟨_,rfl,φ,Ext.refl _ _,hR.below hb,hz h0,jp⟩
  .next h0=>
   cases h3
   obtain⟨⟨-,h4⟩,-⟩:=ho
   rcases h4 with⟨-,h4⟩|⟨c,cap,cur,rfl,hc,hg,hnc,hm,hs,hx⟩
   .omega
   .have hN:σ.new ⟨bC l.length λi=>Ae (ix l i),some (5,126)⟩=some (σ.aj,⟨hset σ.h σ.aj ⟨bC l.length λi=>Ae (ix l i),some (5,126)⟩,σ.aj+1⟩):=lV _ _
    have hol:(bC l.length λi=>Ae (ix l i)).length=l.length*5:=qB λ_=>rfl
    have hcl:c<w'.heap.size:=(eM.mp hg).1
    refine⟨_,rfl,_,xY φ σ.aj (c,cap),(hR.below hb).new hN (w':=w') ⟨rfl,rfl,rfl,jp,λ_ _ _=>rfl⟩ (ap hR.size hc) hcl (λi p hi _ e=>?_) (.inl ⟨EM jj,cur,126,hg,?_,?_,λe t he=>?_⟩),.inl ⟨(c,cap),cap,gY _ _ _,rfl,hnc,?_,rfl,rfl⟩,by simp⟩
    .have:=hR.lo i p hi
     omega
    .show lU φ (bC l.length λi=>Ae (ix l i)) (cur.toList.take (bC l.length λi=>Ae (ix l i)).length)
     rw[hol,hx]
     exact ac1 λi _=>⟨rfl,rfl,rfl,rfl,rfl,trivial⟩
    .grind
    .grind
    grind[maxLen]
 .split at h
  .next e=>
   subst e
   obtain⟨t,a,rfl,h3,h1,la,lf⟩:=aiW h
   refine⟨zY (by kernel_rfl),λN w0 φ w bP hR ha=>?_⟩
   obtain⟨u,rfl,hu⟩:=ac2 ha
   obtain⟨r,rfl,hr⟩:=hu
   obtain⟨rl⟩:=r
   match rl,hr with
   |[tv],⟨ht,_⟩=>
    refine(Yf (InW w) tv a w (h1.un hR ht) jb lf).mono ?_
    rintro e w' ⟨v',l,rfl,-,-,ho,hb,hl,hn⟩
    rw[<-hl]at h3
    unfold aiR at h3
    split at h3
    .next h0=>
     cases h3
     exact⟨_,rfl,φ,Ext.refl _ _,hR.below hb,hn (ff h0),jp⟩
    .next h0=>
     cases h3
     obtain⟨⟨-,h4⟩,-⟩:=ho
     rcases h4 with⟨-,h4⟩|⟨c,cap,cur,rfl,hc,hg,hnc,hm,hs,hx⟩
     .omega
     .have hN:σ.new ⟨ones l.length (λi=>.int .i64 (ix l i)),some (1,3)⟩=some (σ.aj,⟨hset σ.h σ.aj ⟨ones l.length (λi=>.int .i64 (ix l i)),some (1,3)⟩,σ.aj+1⟩):=lV _ _
      rw[acZ,fv]at hx
      have hol:(ones l.length λi=>B.int .i64 (ix l i)).length=l.length:=by grind[OO]
      have hcl:c<w'.heap.size:=(eM.mp hg).1
      refine⟨_,rfl,_,xY φ σ.aj (c,cap),(hR.below hb).new hN (w':=w') ⟨rfl,rfl,rfl,jp,λ_ _ _=>rfl⟩ (ap hR.size hc) hcl (λi p hi _ e=>?_) (.inl ⟨EM jj,cur,3,hg,?_,?_,λe t he=>?_⟩),.inl ⟨(c,cap),cap,gY _ _ _,rfl,hnc,?_,rfl,rfl⟩,by simp⟩
      .have:=hR.lo i p hi
       omega
      .grind[Yg,Yh]
      .grind
      .grind
      grind[maxLen]
  .cases h
def anI(f:Nat)(args:List V)(σ:St):Option (V×St):=aiV f args σ
def anJ(f:Nat)(args:List V)(σ:St)(v:V)(σ':St)(h:anI f args σ=some (v,σ')):okF Tryz.prog f/\∀(N:Nat) (w0:World) (φ:Ph) (w:World) (bP:Array Value),Rel N w0 φ σ w->Ir φ args bP.toList->
  Calls Tryz.prog f bP w λe w'=>∃cv,e=.returned cv/\∃φ',Ext σ.aj φ φ'/\Rel N w0 φ' σ' w'/\RV φ' v cv/\σ.aj<=σ'.aj:=anH f args σ v σ' h
abbrev anK:List Nat:=[114
 ,61
 ,111
 ,62
 ,119
 ,112
 ,120
 ,121
 ,66
 ,23
 ,21
 ,63
 ,113
 ,59
 ,64
 ,196
 ,65
 ,19
 ,60
 ,20
 ,68
 ,58
 ,17
 ,24
 ,25
 ,157
 ,18
 ,184
 ,91
 ]
def afy:Nat->List V->St->Option (V×St):=(Eb anK).Xn
def ac3{f:Nat}(h:anK.contains f=false)(args:List V)(σ:St):afy f args σ=none:=by unfold afy Eb;dsimp only;rw[h];rfl
class awO (E:Env):Prop where
 o:∀f args σ r,afy f args σ=some r->E.Xn f args σ=some r
instance {E:Env}{f:Nat} [h:awO E] [m:Mm f anK]:jP E f:=⟨λargs v σ hv=>h.o f args σ _ (by unfold afy;exact jP.o (E:=Eb anK) args v σ hv)⟩
def anL(f:Nat):Prop:=okF Tryz.prog f/\∀w,Calls Tryz.prog f #[] w λe w'=>e=.returned (.bool true)/\Below w.heap.size w w'
def awN:List Nat:=[
 1000000]
noncomputable section
open Classical in
def awP(f:Nat)(args:List V)(σ:St):Option (V×St):=bif awN.contains f then(match args with|[]=>if anL f then some (.c (.bool true),σ)else none|_=>none)else none
def Yi(f:Nat)(args:List V)(σ:St):Option (V×St):=match afy f args σ with
 |some r=>some r
 |none=>match anI f args σ with
  |some r=>some r
  |none=>awP f args σ
end
class aa7 (E:Env):Prop where
 a:∀f args σ r,Yi f args σ=some r->E.Xn f args σ=some r
instance {E:Env} [h:aa7 E]:awO E:=⟨λf args σ r hv=>h.a f args σ r (by unfold Yi;rw[hv])⟩
def Tn{E:Env}[hE:aa7 E]{f:Nat}{args:List V}{v:V}{σ σ2:St}{K:V->St->Prop}(h:Yi f args σ=some (v,σ2)):aC E f args σ K=K v σ2:=by
 refine propext ⟨λ⟨n,v',σ',h1,h2⟩=>?_,λhk=>XO (hE.a f args σ _ h) hk⟩;have h3:jd E 1 f args σ=some (v,σ2):=by rw[jd];unfold Iq;rw[hE.a f args σ _ h]
 have a:=oD (show n<=n+1 by omega) f args σ _ h1;have b:=oD (show 1<=n+1 by omega) f args σ _ h3;rw[a]at b;cases b;exact h2
section
variable {E:Env} [aa7 E] {σ:St} {K:V→St→Prop}
end
end Go.Proofs.Xe
namespace Go.Proofs.Xe
open Go.Proofs
set_option maxRecDepth 1000000
set_option maxHeartbeats 8000000
def EN:Env:=⟨tF Tryz.prog,Yi⟩
instance aA2:aa7 EN:=⟨λ_ _ _ _ h=>h⟩
structure iQ(k:Nat) where
 a:AF
 g:tG Tryz.prog k=some a:=by conv=>(lhs;reduce;simp only[aqb])
 i:XE Tryz.prog k a=true:=by kernel_rfl
 o:∀args σ,EN.Xn k args σ=none:=by exact λ_ _=>rfl
def iQ.h{k:Nat}(b:iQ k):EN.fns k=some b.a:=aqa b.g b.i
def jQ:iQ 8:=.mk _
def GN:iQ 10:=.mk _
def uI:iQ 12:=.mk _
def DW:iQ 26:=.mk _
def qL:iQ 27:=.mk _
def pO:iQ 28:=.mk _
def DX:iQ 29:=.mk _
def GU:iQ 31:=.mk _
def GV:iQ 32:=.mk _
def kN:iQ 33:=.mk _
def BN:iQ 34:=.mk _
def wC:iQ 35:=.mk _
def GX:iQ 39:=.mk _
def OX:iQ 40:=.mk _
def sF:iQ 42:=.mk _
def uJ:iQ 43:=.mk _
def kS:iQ 44:=.mk _
def lX:iQ 45:=.mk _
def fH:iQ 47:=.mk _
def iT:iQ 49:=.mk _
def jR:iQ 55:=.mk _
def mY:iQ 56:=.mk _
def JQ:iQ 69:=.mk _
def pR:iQ 70:=.mk _
def kT:iQ 71:=.mk _
def mZ:iQ 73:=.mk _
def oH:iQ 74:=.mk _
def jS:iQ 75:=.mk _
def pU:iQ 76:=.mk _
def JR:iQ 80:=.mk _
def GY:iQ 81:=.mk _
def jk:iQ 82:=.mk _
def sH:iQ 84:=.mk _
def nU:iQ 85:=.mk _
def wE:iQ 86:=.mk _
def iK:iQ 87:=.mk _
def jy:iQ 88:=.mk _
def kU:iQ 89:=.mk _
def kX:iQ 90:=.mk _
def pV:iQ 92:=.mk _
def wF:iQ 93:=.mk _
def uM:iQ 94:=.mk _
def kY:iQ 95:=.mk _
def sJ:iQ 96:=.mk _
def ng:iQ 97:=.mk _
def ni:iQ 98:=.mk _
def wG:iQ 99:=.mk _
def jT:iQ 100:=.mk _
def uN:iQ 101:=.mk _
def gK:iQ 102:=.mk _
def sK:iQ 105:=.mk _
def wH:iQ 106:=.mk _
def sN:iQ 107:=.mk _
def kZ:iQ 108:=.mk _
def yA:iQ 109:=.mk _
def jU:iQ 110:=.mk _
def nC:iQ 126:=.mk _
def lY:iQ 127:=.mk _
def qM:iQ 128:=.mk _
def jA:iQ 139:=.mk _
def qN:iQ 141:=.mk _
def oI:iQ 142:=.mk _
def wI:iQ 143:=.mk _
def lZ:iQ 144:=.mk _
def nG:iQ 145:=.mk _
def nH:iQ 146:=.mk _
def gZ:iQ 147:=.mk _
def jV:iQ 148:=.mk _
def pW:iQ 149:=.mk _
def uO:iQ 150:=.mk _
def wJ:iQ 151:=.mk _
def yB:iQ 152:=.mk _
def sO:iQ 153:=.mk _
def eY:iQ 154:=.mk _
def yC:iQ 155:=.mk _
def jl:iQ 156:=.mk _
def l9:iQ 158:=.mk _
def lu:iQ 159:=.mk _
def lC:iQ 160:=.mk _
def lH:iQ 169:=.mk _
def lI:iQ 170:=.mk _
def pX:iQ 171:=.mk _
def iL:iQ 172:=.mk _
def dZ:iQ 179:=.mk _
def jg:iQ 180:=.mk _
def lJ:iQ 185:=.mk _
def fO:iQ 186:=.mk _
def lK:iQ 187:=.mk _
def wK:iQ 188:=.mk _
def jB:iQ 189:=.mk _
def wL:iQ 190:=.mk _
def yD:iQ 191:=.mk _
def sS:iQ 192:=.mk _
def dN:iQ 193:=.mk _
def uP:iQ 194:=.mk _
def qO:iQ 195:=.mk _
def mF:iQ 197:=.mk _
def iM:iQ 198:=.mk _
def fP:iQ 212:=.mk _
def yE:iQ 216:=.mk _
def wM:iQ 217:=.mk _
def mG:iQ 218:=.mk _
def oJ:iQ 219:=.mk _
def nI:iQ 220:=.mk _
def nJ:iQ 221:=.mk _
def nV:iQ 222:=.mk _
def nK:iQ 223:=.mk _
def yF:iQ 239:=.mk _
def gU:iQ 240:=.mk _
def yG:iQ 241:=.mk _
end Go.Proofs.Xe
end
