import Derived.Test.YthkggcakedkboaaGreatDoorYc13
import Derived.Lib.OwnBridge
set_option linter.all false
set_option maxHeartbeats 8000000
noncomputable section
namespace Go.Proofs.Ins
open Go.RowKit
def Cj{F:Nat->List Value}{sz:Nat}:∀(n:Nat),(∀i,i<n->(F i).length=sz)->((List.range n).flatMap F).length=n*sz
 |0,_=>by simp
 |n+1,h=>by rw[fo,cK,aD,Cj n (λi hi=>h i jb)];simp[h n jb,cw]
def cJ(l:List Int)(j:Nat):List Value:=[.int .i64 (l.getD j 0)]
def abh(l:List Int):(List.range l.length).flatMap (cJ l)=l.map (Value.int .i64):=by
 apply List.ext_getElem?;intro j;by_cases h:j<l.length
 .have:=xM (sz:=1) (F:=cJ l) l.length (λi _=>rfl) j 0 h jb;grind[cJ]
 .rw[List.getElem?_eq_none,List.getElem?_eq_none]
  .simpa using h
  .rw[Cj (sz:=1) l.length (λi _=>rfl)];omega
def alG(l:List Int)(x:Int)(j:Nat)(hj:j<l.length+1):(if j<l.length then cJ l j else [.int .i64 x])=cJ (l++[x]) j:=by grind[cJ]
def G8{w:World}{base:Nat}{T:TypeId}{v:Value}{l:List Int}:kZ w base T 1 v l.length (cJ l)↔w.ownsRow base T 1 v l.length (l.map (Value.int .i64)):=by unfold kZ;rw[abh];exact⟨λh=>h.1,λh=>⟨h,λ_ _=>rfl⟩⟩
def below_grow{B:Nat}{w0 w:World}{os:Array Obj}(h:Below B w0 w)(hB:B<=w.heap.size):Below B w0 (Sort.grow w os):=
 ⟨h.os,h.tape,h.output,by have:=h.size;grind[Sort.grow],λk hk=>by rw[<-h.block k hk];grind[Sort.heap_grow_old]⟩
def ownsRow_grow{w:World}{base:Nat}{T:TypeId}{v:Value}{n:Nat}{xs:List Value}{os:Array Obj}(h:w.ownsRow base T 1 v n xs):(Sort.grow w os).ownsRow base T 1 v n xs:=by
 obtain⟨h1,h2⟩:=h;refine⟨h1,?_⟩;rcases h2 with h2|⟨g,cap,cur,hv,hb,hg,r⟩
 .grind
 .exact .inr ⟨g,cap,cur,hv,hb,by grind[Sort.heap_grow_old],r⟩
def Wj{w:World}{base:Nat}{T:TypeId}{sz n:Nat}{F:Nat->List Value}(h:kZ w base T sz (.slice none 0 0) n F):n=0:=by obtain⟨⟨-,h1⟩,-⟩:=h;grind
def ag1(w:World)(base:Nat)(v:Value)(l:List Int)(h:kZ w base 3 1 v l.length (cJ l))(hb:base<=w.heap.size)(hl:l.length<4611686018427387904):
  Calls Tryz.prog 134 #[v] w λe w'=>e=.returned (.tuple #[])/\∃l':List Int,l'.length=l.length/\(∀x,x∈l'↔x∈l)/\kZ w' base 3 1 v l'.length (cJ l')/\Below base w w'/\l'=l.mergeSort λx y=>decide (x<=y):=by
 by_cases hv:v=.slice none 0 0
 .subst hv
  refine(Tryz.slices_Sort_int_none none 0 w).mono λe w' ⟨he,hw⟩=>⟨he,l,rfl,λ_=>Iff.rfl,by grind,by grind[Below.refl],by rw[fa (Wj h)];simp⟩
 .have hr:=G8.mp h
  obtain⟨g,cap,rfl,h1,h2,h3,h4,h5,h6⟩:=Lib.holds_of_ownsRow hr hv
  refine(Tryz.slices_Sort_int g 0 cap l w h6 h2 hl).mono ?_
  rintro e w' ⟨he,n,os,rfl⟩
  refine⟨he,l.mergeSort λx y=>decide (x<=y),by simp,λx=>List.mem_mergeSort,G8.mpr ?_,below_grow (Lib.below_putRow (Below.refl base w) h1) (by simp_all),rfl⟩
  refine ownsRow_grow ?_
  have:=Lib.ownsRow_putRow (q:=n) (k:=l.length) (ys:=l.mergeSort λx y=>decide (x<=y)) hr kc jp
  grind[List.length_mergeSort]
def Wn(w:World)(base:Nat)(v:Value)(l:List Int)(h:kZ w base 3 1 v l.length (cJ l))(hl:l.length<=9223372036854775807):
  Calls Tryz.prog 135 #[v] w λe w'=>∃v' l',e=.returned v'/\l'.length<=l.length/\(∀x,x∈l'↔x∈l)/\kZ w' base 3 1 v' l'.length (cJ l')/\Below base w w'/\l'=Lib.compact l/\(v=.slice none 0 0->v'=.slice none 0 0):=by
 by_cases hv:v=.slice none 0 0
 .subst hv
  refine(Tryz.slices_Compact_int_empty none 0 w).mono λe w' ⟨he,hw⟩=>⟨_,l,he,jp,λ_=>Iff.rfl,by grind,by grind[Below.refl],by rw[fa (Wj h)];rfl,λh=>h⟩
 .have hr:=G8.mp h
  obtain⟨g,cap,rfl,h1,h2,h3,h4,h5,h6⟩:=Lib.holds_of_ownsRow hr hv
  refine(Tryz.slices_Compact_int g 0 cap l w h6 hl h3).mono ?_
  rintro e w' ⟨he,q,rfl⟩
  have hle:=Lib.compact_length_le l
  refine⟨_,Lib.compact l,he,hle,λx=>mem_compact,G8.mpr ?_,Lib.below_putRow (Below.refl base w) h1,rfl,λh=>absurd h hv⟩
  grind[Lib.ownsRow_putRow,List.take_left]
def mks(l:List yQ)(k:Nat):List Int:=((l.take k).map λx=>x.k).filter λx=>x !=-1
def ag2(l:List yQ):mks l 0=[]:=by rfl
def alH{l:List yQ}{k:Nat}(h:k<l.length)(h2:(ix l k).k≠-1):mks l (k+1)=mks l k++[(ix l k).k]:=by grind[mks,bH]
def aqC{l:List yQ}{k:Nat}(h:k<l.length)(h2:(ix l k).k=-1):mks l (k+1)=mks l k:=by grind[mks,bH]
def alI(l:List yQ)(k:Nat):(mks l k).length<=k:=by grind[Go.Proofs.Ins.mks]
def alJ{a:gB}{c:Int}:c∈mks a.flatten a.flatten.length↔c≠-1/\O7 a c=true:=by grind[mks,O7,memT]
def atZ(w:World)(T:TypeId)(a:gB)(e:Ending)(w':World):Prop:=
 ∃v l,e=.returned v/\l.length<=a.flatten.length/\(∀c,c∈l↔c≠-1/\O7 a c=true)/\kZ w' w.heap.size T 1 v l.length (cJ l)/\Below w.heap.size w w'/\l=vH a/\(l=[]->v=.slice none 0 0)
set_option maxRecDepth 100000 in
def Wp(p:Nat->Prop)(v:Value)(a:gB)(w:World)(hA:wJ w p v a)(la:a.length<=140737488351232)(lf:a.flatten.length<=1000000):
  Calls Tryz.prog 91 #[.agg #[v]] w (atZ w 3 a):=by
 have HC:=jx (λw' (h:wJ w' p v a)=>Wi p v a w' h la lf)
 have HA:=jx hA
 have HM:=jx (λc=>alJ (a:=a) (c:=c))
 have HY:=jx (λk h h2=>alH (l:=a.flatten) (k:=k) h h2)
 have HN:=jx (λk h h2=>aqC (l:=a.flatten) (k:=k) h h2)
 have HL:=jx (alI a.flatten)
 have H0:=jx (ag2 a.flatten)
 have HML:=jx (show vH a=Lib.compact ((mks a.flatten a.flatten.length).mergeSort λx y=>decide (x<=y)) by unfold vH mks;rw[cg])
 unfold atZ
 clear hA
 generalize hmm:mks a.flatten=MK at*
 generalize hfl:a.flatten=fl at*
 clear hmm hfl
 generalize hN:fl.length=N at*
 go_enter Tryz.func91,Tryz.ntmps91
 go_wp2_with fail
 refine(HC.out _ (HA.out.on ((Below.refl _ _).alloc jp _))).mono ?_
 rintro e w1 ⟨v1,rfl,ho1,hb1⟩
 obtain⟨-,HB⟩:=aoI hb1
 have HB:=jx HB
 have hz1:=HB.out.size
 have hsl:=ho1.sl
 obtain⟨a1,cap1,rfl,-,-⟩:=hsl.form
 have HSL:=jx hsl
 clear ho1 hb1 hsl HC HA
 go_wp2_with fail
 go_loopw [3,10] (λv i wr=>∃k:Nat,i=.int .i64 k/\k<=N/\kZ wr w1.heap.size 3 1 v (MK k).length (cJ (MK k))/\Below w1.heap.size w1 wr/\Hid (MK k=[]->v=.slice none 0 0)) (λ_ i _=>N-(intOf i).toNat)
 case atStart=>exact⟨0,rfl,jb,by rw[H0.out];exact kZ.nil _ _ _ _ _,Below.refl _ _,jx λ_=>rfl⟩
 case round=>
  obtain⟨k,rfl,hk,hown,hbel,HNV⟩:=hrel;have HO:=jx hown;have HBR:=jx hbel;have hsz:=hbel.size;by_cases hlt:k<N
  .obtain⟨b,off,rfl,-,-,-⟩:=HSL.out.get jb;have e0:=HSL.out.cellAt rfl hbel (i:=k) (j:=0) hlt jb;have e1:wr.cell? ⟨b,off+k*5+1,none⟩=some (Value.bool (ix fl k).b):=HSL.out.cellAt rfl hbel (i:=k) (j:=1) hlt jb;have e2:wr.cell? ⟨b,off+k*5+2,none⟩=some (Value.bool (ix fl k).a.n):=HSL.out.cellAt rfl hbel (i:=k) (j:=2) hlt jb;have e3:wr.cell? ⟨b,off+k*5+3,none⟩=some (Value.string (ix fl k).a.s):=HSL.out.cellAt rfl hbel (i:=k) (j:=3) hlt jb;have e4:wr.cell? ⟨b,off+k*5+4,none⟩=some (Value.string (ix fl k).a.d):=HSL.out.cellAt rfl hbel (i:=k) (j:=4) hlt jb;rw[cA]at e0;have e0':wr.cell? ⟨b,off+k*5,none⟩=some (Value.int .i64 (ix fl k).k):=e0;have HYK:=jx (HY.out k jb);have HNK:=jx (HN.out k jb);have hlk:=HL.out k;have i1:(0:Int)<=(k:Int):=jb;have i2:(k:Int)<(N:Int):=jb;clear e0 hown hbel HY HN HL HM;generalize at1:MK (k+1)=M1 at*;have HM1:=jx at1;generalize awv:MK k=M0 at*;clear at1 awv;generalize (ix fl k).k=x at*;generalize (ix fl k).b=pb at*;generalize (ix fl k).a.n=an at*;generalize (ix fl k).a.s=as' at*;generalize (ix fl k).a.d=ad at*;by_cases hx:x=-1
   .have h1:(x !=-1)=false:=by simp[hx]
    have HX:=jx (HNK.out hx);clear HYK HNK;go_wp2;go_roundw
    case rel=>exact⟨k+1,by go_num,jb,by rw[HM1.out,HX.out];exact HO.out.below ((Below.refl _ _).alloc jp _) jp,HBR.out.alloc jb _,jx λh=>HNV.out (by rwa[HM1.out,HX.out]at h)⟩
    case measure=>simp[intOf];omega
   .have h1:(x !=-1)=true:=by simp[hx]
    have HX:=jx (HYK.out hx);have HO2:=jx (HO.out.below ((Below.refl wr.heap.size wr).alloc jp (.cells #[.int .i64 x,.bool pb,.bool an,.string as',.string ad] 97)) jp);have hz2:(wr.alloc (.cells #[.int .i64 x,.bool pb,.bool an,.string as',.string ad] 97)).heap.size=wr.heap.size+1:=by simp
    clear HYK HNK;go_wp2_with (refine LM _ _ 127 3 1 8 w1.heap.size _ _ _ [.int .i64 x] (by rfl) (by rfl) Tryz.underlying127 akc jb (by rfl) (by rfl) (by simp[Value.oneCell']) (by rw[World.size_alloc];rfl) HO2.out jb jb (by rw[World.size_alloc];omega) ?_;intro v9 w9 ho9 hb9;have HO9:=jx ho9;have HB9:=jx hb9;clear ho9 hb9)
    go_roundw
    case rel=>
     refine⟨k+1,by go_num,jb,?_,(HBR.out.alloc jb _).trans HB9.out,jx λh=>by rw[HM1.out,HX.out]at h;simp at h⟩;rw[HM1.out,HX.out,aD];exact HO9.out.congr λj hj=>alG _ _ j hj
    case measure=>simp[intOf];omega
  .obtain rfl:k=N:=jb;have hnl:decide ((k:Int)<(k:Int))=false:=by simp
   have hlk:=HL.out k;have HST:=jx (ag1 wr w1.heap.size u3 (MK k) hown jb jb);go_wp2_with fail;refine HST.out.mono ?_;rintro e w2 ⟨rfl,l2,hl2,hm2,ho2,hb2,hs2⟩;have HCP:=jx (Wn w2 w1.heap.size u3 l2 ho2 jb);have HB2:=jx (HBR.out.trans hb2);have HM2:=jx hm2;have HS2:=jx hs2;clear ho2 hb2 HST hm2 hown hbel hs2;go_wp2_with fail;refine HCP.out.mono ?_;rintro e w3 ⟨v3,l3,rfl,hl3,hm3,ho3,hb3,hc3,hn3⟩;have HO3:=jx ho3;have HM3:=jx hm3;have HB3:=jx (HB2.out.trans hb3);have HC3:=jx hc3;have HN3:=jx hn3;clear ho3 hm3 hb3 hc3 hn3;go_wp2;go_ret;exact⟨_,l3,rfl,jb,λc=>by rw[HM3.out,HM2.out,HM.out],HO3.out.mono jb,chain HB.out HB3.out jp,by rw[HC3.out,HS2.out,HML.out],λh=>HN3.out (HNV.out (List.eq_nil_iff_forall_not_mem.mpr λx hx=>by have:=(HM3.out x).mpr ((HM2.out x).mpr hx);rw[h]at this;cases this))⟩
end Go.Proofs.Ins
namespace Go.Proofs.Xe
open Go.RowKit Go.Proofs.Ins
theorem Wq:∀l:List Int,ones l.length (λi=>B.int .i64 (ix l i))=l.map (B.int .i64)
 |[]=>rfl
 |x::l=>by show [B.int .i64 x]++bD l.length (λi=>[B.int .i64 (ix l i)])=_;have:=Wq l;unfold ones at this;rw[this];rfl
theorem Ws(φ:Ph):∀l:List Int,ku φ (l.map (B.int .i64)) (l.map (Value.int .i64))
 |[]=>trivial
 |_::l=>⟨rfl,Ws φ l⟩
def ag3(l:List Int)(σ:St):Option (V×St):=if l.length=0 then some (.c .aW,σ)else some (.c (.sl σ.aj 0 l.length .opn),⟨hset σ.h σ.aj ⟨ones l.length (λi=>.int .i64 (ix l i)),some (1,3)⟩,σ.aj+1⟩)
def abj{φ:Ph}:∀{n:Nat}{G:Nat->List B}{F:Nat->List Value},(∀i,i<n->ku φ (G i) (F i))->ku φ (bD n G) ((List.range n).flatMap F)
 |0,_,_,_=>trivial
 |n+1,G,F,h=>by rw[List.range_succ_eq_map,gR,ie];exact ku.append (h 0 jb) (abj λi hi=>h (i+1) jb)
def ag4(l:List yQ)(σ:St):Option (V×St):=if l.length=0 then some (.c .aW,σ)else some (.c (.sl σ.aj 0 l.length .opn),⟨hset σ.h σ.aj ⟨bD l.length λi=>Ba (ix l i),some (5,97)⟩,σ.aj+1⟩)
noncomputable section
open Classical in
def ag5(args:List V)(σ:St):Option (V×St):=match args with
 |[.agg [v]]=>if h:∃a,dV (λ_=>True) σ.h v a/\a.length<=1000000/\a.flatten.length<=1000000 then ag3 (vH (Classical.choose h)) σ else none
 |_=>none
open Classical in
def ag6(args:List V)(σ:St):Option (V×St):=match args with
 |[.c v]=>if h:∃a,dV (λ_=>True) σ.h v a/\a.length<=1000000/\a.flatten.length<=1000000 then ag4 (Classical.choose h).flatten σ else none
 |_=>none
def ag7(f:Nat)(args:List V)(σ:St):Option (V×St):=
 if f=133 then ag6 args σ
 else if f=91 then ag5 args σ
 else none
end
def alK{p:Nat->Prop}{σ:St}{v:B}{a:gB}(ha:dV p σ.h v a)(h1:a.length<=1000000)(h2:a.flatten.length<=1000000):ag5 [.agg [v]] σ=ag3 (vH a) σ:=by
 have h:∃a,dV (λ_=>True) σ.h v a/\a.length<=1000000/\a.flatten.length<=1000000:=⟨a,ha.keep (λ_ _=>rfl) λ_ _=>trivial,h1,h2⟩
 unfold ag5;dsimp only;rw[dif_pos h,(Classical.choose_spec h).1.uniq ha]
def ag8{args:List V}{σ σ':St}{v:V}(h:ag5 args σ=some (v,σ')):∃t a,args=[.agg [t]]/\ag3 (vH a) σ=some (v,σ')/\dV (λ_=>True) σ.h t a/\a.length<=1000000/\a.flatten.length<=1000000:=by
 unfold ag5 at h;split at h
 .next t=>
  split at h
  .grind
  .cases h
 .cases h
def alL{p:Nat->Prop}{σ:St}{v:B}{a:gB}(ha:dV p σ.h v a)(h1:a.length<=1000000)(h2:a.flatten.length<=1000000):ag6 [.c v] σ=ag4 a.flatten σ:=by
 have h:∃a,dV (λ_=>True) σ.h v a/\a.length<=1000000/\a.flatten.length<=1000000:=⟨a,ha.keep (λ_ _=>rfl) λ_ _=>trivial,h1,h2⟩
 unfold ag6;dsimp only;rw[dif_pos h,(Classical.choose_spec h).1.uniq ha]
def ag9{args:List V}{σ σ':St}{v:V}(h:ag6 args σ=some (v,σ')):∃t a,args=[.c t]/\ag4 a.flatten σ=some (v,σ')/\dV (λ_=>True) σ.h t a/\a.length<=1000000/\a.flatten.length<=1000000:=by
 unfold ag6 at h;split at h
 .next t=>
  split at h
  .grind
  .cases h
 .cases h
def abk{φ:Ph}{bF:Array Value}{x:V}(h:Gu φ [x] bF.toList):∃u,bF= #[u]/\RV φ x u:=by
 obtain⟨l⟩:=bF;match l,h with
 |[u],h=>exact⟨u,rfl,h.1⟩
def alM(f:Nat)(args:List V)(σ:St)(v:V)(σ':St)(h:ag7 f args σ=some (v,σ')):okF Tryz.prog f/\∀(N:Nat) (w0:World) (φ:Ph) (w:World) (bF:Array Value),Rel N w0 φ σ w->Gu φ args bF.toList->
  Calls Tryz.prog f bF w λe w'=>∃cv,e=.returned cv/\∃φ',Ext σ.aj φ φ'/\Rel N w0 φ' σ' w'/\RV φ' v cv/\σ.aj<=σ'.aj:=by
 unfold ag7 at h
 split at h
 .next e=>
  subst e
  obtain⟨t,a,rfl,h3,h1,la,lf⟩:=ag9 h
  refine⟨yx (by kernel_rfl),λN w0 φ w bF hR ha=>?_⟩
  obtain⟨u,rfl,hu⟩:=abk ha
  refine(G7 (InW w) u a w (h1.un hR hu) jb lf).mono ?_
  rintro e w' ⟨v',rfl,ho,hb,hz⟩
  generalize a.flatten=l at*
  unfold ag4 at h3
  split at h3
  .next h0=>
   cases h3
   exact⟨_,rfl,φ,Ext.refl _ _,hR.below hb,hz h0,jp⟩
  .next h0=>
   cases h3
   obtain⟨⟨-,h4⟩,-⟩:=ho
   rcases h4 with⟨-,h4⟩|⟨c,cap,cur,rfl,hc,hg,hnc,hm,hs,hx⟩
   .omega
   .have hN:σ.new ⟨bD l.length λi=>Ba (ix l i),some (5,97)⟩=some (σ.aj,⟨hset σ.h σ.aj ⟨bD l.length λi=>Ba (ix l i),some (5,97)⟩,σ.aj+1⟩):=jG _ _
    have hol:(bD l.length λi=>Ba (ix l i)).length=l.length*5:=qA λ_=>rfl
    have hcl:c<w'.heap.size:=(eJ.mp hg).1
    refine⟨_,rfl,_,wB φ σ.aj (c,cap),(hR.below hb).new hN (w':=w') ⟨rfl,rfl,rfl,jp,λ_ _ _=>rfl⟩ (aw hR.size hc) hcl (λi p hi _ e=>?_) (.inl ⟨DC jj,cur,97,hg,?_,?_,λe t he=>?_⟩),.inl ⟨(c,cap),cap,gK _ _ _,rfl,hnc,?_,rfl,rfl⟩,by simp⟩
    .have:=hR.lo i p hi
     omega
    .show ku φ (bD l.length λi=>Ba (ix l i)) (cur.toList.take (bD l.length λi=>Ba (ix l i)).length)
     rw[hol,hx]
     exact abj λi _=>⟨rfl,rfl,rfl,rfl,rfl,trivial⟩
    .grind
    .grind
    grind[maxLen]
 .split at h
  .next e=>
   subst e
   obtain⟨t,a,rfl,h3,h1,la,lf⟩:=ag8 h
   refine⟨yx (by kernel_rfl),λN w0 φ w bF hR ha=>?_⟩
   obtain⟨u,rfl,hu⟩:=abk ha
   obtain⟨r,rfl,hr⟩:=hu
   obtain⟨rl⟩:=r
   match rl,hr with
   |[tv],⟨ht,_⟩=>
    refine(Wp (InW w) tv a w (h1.un hR ht) jb lf).mono ?_
    rintro e w' ⟨v',l,rfl,-,-,ho,hb,hl,hn⟩
    rw[<-hl]at h3
    unfold ag3 at h3
    split at h3
    .next h0=>
     cases h3
     exact⟨_,rfl,φ,Ext.refl _ _,hR.below hb,hn (fa h0),jp⟩
    .next h0=>
     cases h3
     obtain⟨⟨-,h4⟩,-⟩:=ho
     rcases h4 with⟨-,h4⟩|⟨c,cap,cur,rfl,hc,hg,hnc,hm,hs,hx⟩
     .omega
     .have hN:σ.new ⟨ones l.length (λi=>.int .i64 (ix l i)),some (1,3)⟩=some (σ.aj,⟨hset σ.h σ.aj ⟨ones l.length (λi=>.int .i64 (ix l i)),some (1,3)⟩,σ.aj+1⟩):=jG _ _
      rw[abh,fj]at hx
      have hol:(ones l.length λi=>B.int .i64 (ix l i)).length=l.length:=by grind[Nj]
      have hcl:c<w'.heap.size:=(eJ.mp hg).1
      refine⟨_,rfl,_,wB φ σ.aj (c,cap),(hR.below hb).new hN (w':=w') ⟨rfl,rfl,rfl,jp,λ_ _ _=>rfl⟩ (aw hR.size hc) hcl (λi p hi _ e=>?_) (.inl ⟨DC jj,cur,3,hg,?_,?_,λe t he=>?_⟩),.inl ⟨(c,cap),cap,gK _ _ _,rfl,hnc,?_,rfl,rfl⟩,by simp⟩
      .have:=hR.lo i p hi
       omega
      .grind[Wq,Ws]
      .grind
      .grind
      grind[maxLen]
  .cases h
def alN(f:Nat)(args:List V)(σ:St):Option (V×St):=ag7 f args σ
def alO(f:Nat)(args:List V)(σ:St)(v:V)(σ':St)(h:alN f args σ=some (v,σ')):okF Tryz.prog f/\∀(N:Nat) (w0:World) (φ:Ph) (w:World) (bF:Array Value),Rel N w0 φ σ w->Gu φ args bF.toList->
  Calls Tryz.prog f bF w λe w'=>∃cv,e=.returned cv/\∃φ',Ext σ.aj φ φ'/\Rel N w0 φ' σ' w'/\RV φ' v cv/\σ.aj<=σ'.aj:=alM f args σ v σ' h
abbrev alP:List Nat:=[76
 ,39
 ,81
 ,40
 ,83
 ,82
 ,84
 ,85
 ,49
 ,48
 ,26
 ,41
 ,75
 ,37
 ,45
 ,151
 ,46
 ,23
 ,38
 ,17
 ,98
 ,44
 ,22
 ,60
 ,117
 ,115
 ,16
 ,136
 ,59
 ]
def adQ:Nat->List V->St->Option (V×St):=(Eb alP).Vm
def abl{f:Nat}(h:alP.contains f=false)(args:List V)(σ:St):adQ f args σ=none:=by unfold adQ Eb;dsimp only;rw[h];rfl
class at6 (E:Env):Prop where
 o:∀f args σ r,adQ f args σ=some r->E.Vm f args σ=some r
instance {E:Env}{f:Nat} [h:at6 E] [m:Mm f alP]:jE E f:=⟨λargs v σ hv=>h.o f args σ _ (by unfold adQ;exact jE.o (E:=Eb alP) args v σ hv)⟩
def alQ(f:Nat):Prop:=okF Tryz.prog f/\∀w,Calls Tryz.prog f #[] w λe w'=>e=.returned (.bool true)/\Below w.heap.size w w'
def awN:List Nat:=[
 1000000]
noncomputable section
open Classical in
def at7(f:Nat)(args:List V)(σ:St):Option (V×St):=bif awN.contains f then(match args with|[]=>if alQ f then some (.c (.bool true),σ)else none|_=>none)else none
def Wu(f:Nat)(args:List V)(σ:St):Option (V×St):=match adQ f args σ with
 |some r=>some r
 |none=>match alN f args σ with
  |some r=>some r
  |none=>at7 f args σ
end
class Zp (E:Env):Prop where
 a:∀f args σ r,Wu f args σ=some r->E.Vm f args σ=some r
instance {E:Env} [h:Zp E]:at6 E:=⟨λf args σ r hv=>h.a f args σ r (by unfold Wu;rw[hv])⟩
def Qr{E:Env}[hE:Zp E]{f:Nat}{args:List V}{v:V}{σ σ2:St}{K:V->St->Prop}(h:Wu f args σ=some (v,σ2)):aC E f args σ K=K v σ2:=by
 refine propext ⟨λ⟨n,v',σ',h1,h2⟩=>?_,λhk=>VO (hE.a f args σ _ h) hk⟩;have h3:iP E 1 f args σ=some (v,σ2):=by rw[iP];unfold Gt;rw[hE.a f args σ _ h]
 have a:=ng (show n<=n+1 by omega) f args σ _ h1;have b:=ng (show 1<=n+1 by omega) f args σ _ h3;rw[a]at b;cases b;exact h2
section
variable {E:Env} [Zp E] {σ:St} {K:V→St→Prop}
end
end Go.Proofs.Xe
namespace Go.Proofs.Xe
open Go.Proofs
set_option maxRecDepth 1000000
set_option maxHeartbeats 8000000
def EN:Env:=⟨tF Tryz.prog,Wu⟩
instance aym:Zp EN:=⟨λ_ _ _ _ h=>h⟩
structure jf(k:Nat) where
 a:AF
 g:tG Tryz.prog k=some a:=by conv=>(lhs;reduce;simp only[anY])
 i:VF Tryz.prog k a=true:=by kernel_rfl
 o:∀args σ,EN.Vm k args σ=none:=by exact λ_ _=>rfl
def jf.h{k:Nat}(b:jf k):EN.fns k=some b.a:=anX b.g b.i
def oQ:jf 7:=.mk _
def Fz:jf 12:=.mk _
def rX:jf 13:=.mk _
def rY:jf 14:=.mk _
def Cm:jf 18:=.mk _
def aj0:jf 19:=.mk _
def CB:jf 21:=.mk _
def wK:jf 24:=.mk _
def FB:jf 28:=.mk _
def Np:jf 29:=.mk _
def qC:jf 30:=.mk _
def rZ:jf 31:=.mk _
def jL:jf 32:=.mk _
def kF:jf 33:=.mk _
def nM:jf 42:=.mk _
def CG:jf 43:=.mk _
def IX:jf 50:=.mk _
def FC:jf 51:=.mk _
def qE:jf 52:=.mk _
def mG:jf 53:=.mk _
def uw:jf 54:=.mk _
def iF:jf 55:=.mk _
def jg:jf 56:=.mk _
def jM:jf 57:=.mk _
def jO:jf 58:=.mk _
def nV:jf 61:=.mk _
def uy:jf 62:=.mk _
def lH:jf 63:=.mk _
def jv:jf 64:=.mk _
def su:jf 65:=.mk _
def jP:jf 66:=.mk _
def qF:jf 67:=.mk _
def lI:jf 68:=.mk _
def lJ:jf 69:=.mk _
def uz:jf 70:=.mk _
def jw:jf 71:=.mk _
def sD:jf 72:=.mk _
def CJ:jf 73:=.mk _
def jh:jf 90:=.mk _
def oU:jf 92:=.mk _
def nC:jf 93:=.mk _
def uF:jf 94:=.mk _
def kG:jf 95:=.mk _
def lK:jf 96:=.mk _
def lM:jf 97:=.mk _
def gQ:jf 99:=.mk _
def jy:jf 100:=.mk _
def qG:jf 101:=.mk _
def uG:jf 102:=.mk _
def qH:jf 103:=.mk _
def jQ:jf 104:=.mk _
def jA:jf 105:=.mk _
def iK:jf 106:=.mk _
def nX:jf 107:=.mk _
def sF:jf 108:=.mk _
def uH:jf 109:=.mk _
def wL:jf 110:=.mk _
def qI:jf 111:=.mk _
def dZ:jf 112:=.mk _
def wM:jf 113:=.mk _
def iW:jf 114:=.mk _
def kH:jf 116:=.mk _
def ET:jf 118:=.mk _
def dX:jf 131:=.mk _
def iQ:jf 132:=.mk _
def jR:jf 137:=.mk _
def fE:jf 138:=.mk _
def jS:jf 139:=.mk _
def jT:jf 140:=.mk _
def jU:jf 141:=.mk _
def iY:jf 142:=.mk _
def uI:jf 143:=.mk _
def ji:jf 144:=.mk _
def uJ:jf 145:=.mk _
def wO:jf 146:=.mk _
def qJ:jf 147:=.mk _
def dB:jf 148:=.mk _
def sH:jf 149:=.mk _
def oV:jf 150:=.mk _
def kJ:jf 152:=.mk _
def iG:jf 153:=.mk _
def fH:jf 171:=.mk _
def wP:jf 175:=.mk _
def uM:jf 176:=.mk _
def kK:jf 177:=.mk _
def nG:jf 178:=.mk _
def lN:jf 179:=.mk _
def lQ:jf 180:=.mk _
def mJ:jf 181:=.mk _
def lS:jf 182:=.mk _
def wQ:jf 204:=.mk _
def fZ:jf 205:=.mk _
def wR:jf 206:=.mk _
end Go.Proofs.Xe
end
