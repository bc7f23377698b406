import Derived.Test.YthkggcakedkboaaGreatDoorY12
import Derived.Lib.OwnBridge
set_option linter.all false
set_option maxHeartbeats 8000000
noncomputable section
namespace Go.Proofs.Ins
open Go.RowKit
def Bj{F:Nat->List Value}{sz:Nat}:∀(n:Nat),(∀i,i<n->(F i).length=sz)->((List.range n).flatMap F).length=n*sz
 |0,_=>by simp
 |n+1,h=>by rw[fe,cH,aR,Bj n (λi hi=>h i jb)];simp[h n jb,ck]
def cJ(l:List Int)(j:Nat):List Value:=[.int .i64 (l.getD j 0)]
def aae(l:List Int):(List.range l.length).flatMap (cJ l)=l.map (Value.int .i64):=by
 apply List.ext_getElem?;intro j;by_cases h:j<l.length
 .have:=wP (sz:=1) (F:=cJ l) l.length (λi _=>rfl) j 0 h jb;grind[cJ]
 .rw[List.getElem?_eq_none,List.getElem?_eq_none]
  .simpa using h
  .rw[Bj (sz:=1) l.length (λi _=>rfl)];omega
def aki(l:List Int)(x:Int)(j:Nat)(hj:j<l.length+1):(if j<l.length then cJ l j else [.int .i64 x])=cJ (l++[x]) j:=by grind[cJ]
def FU{w:World}{base:Nat}{T:TypeId}{v:Value}{l:List Int}:kL w base T 1 v l.length (cJ l)↔w.ownsRow base T 1 v l.length (l.map (Value.int .i64)):=by unfold kL;rw[aae];exact⟨λh=>h.1,λh=>⟨h,λ_ _=>rfl⟩⟩
def below_grow{B:Nat}{w0 w:World}{os:Array Obj}(h:Below B w0 w)(hB:B<=w.heap.size):Below B w0 (Sort.grow w os):=
 ⟨h.os,h.tape,h.output,by have:=h.size;grind[Sort.grow],λk hk=>by rw[<-h.block k hk];grind[Sort.heap_grow_old]⟩
def ownsRow_grow{w:World}{base:Nat}{T:TypeId}{v:Value}{n:Nat}{xs:List Value}{os:Array Obj}(h:w.ownsRow base T 1 v n xs):(Sort.grow w os).ownsRow base T 1 v n xs:=by
 obtain⟨h1,h2⟩:=h;refine⟨h1,?_⟩;rcases h2 with h2|⟨g,cap,cur,hv,hb,hg,r⟩
 .grind
 .exact .inr ⟨g,cap,cur,hv,hb,by grind[Sort.heap_grow_old],r⟩
def Va{w:World}{base:Nat}{T:TypeId}{sz n:Nat}{F:Nat->List Value}(h:kL w base T sz (.slice none 0 0) n F):n=0:=by obtain⟨⟨-,h1⟩,-⟩:=h;grind
def afI(w:World)(base:Nat)(v:Value)(l:List Int)(h:kL w base 3 1 v l.length (cJ l))(hb:base<=w.heap.size)(hl:l.length<4611686018427387904):
  Calls Tryz.prog 134 #[v] w λe w'=>e=.returned (.tuple #[])/\∃l':List Int,l'.length=l.length/\(∀x,x∈l'↔x∈l)/\kL w' base 3 1 v l'.length (cJ l')/\Below base w w'/\l'=l.mergeSort λx y=>decide (x<=y):=by
 by_cases hv:v=.slice none 0 0
 .subst hv
  refine(Tryz.slices_Sort_int_none none 0 w).mono λe w' ⟨he,hw⟩=>⟨he,l,rfl,λ_=>Iff.rfl,by grind,by grind[Below.refl],by rw[fm (Va h)];simp⟩
 .have hr:=FU.mp h
  obtain⟨g,cap,rfl,h1,h2,h3,h4,h5,h6⟩:=Lib.holds_of_ownsRow hr hv
  refine(Tryz.slices_Sort_int g 0 cap l w h6 h2 hl).mono ?_
  rintro e w' ⟨he,n,os,rfl⟩
  refine⟨he,l.mergeSort λx y=>decide (x<=y),by simp,λx=>List.mem_mergeSort,FU.mpr ?_,below_grow (Lib.below_putRow (Below.refl base w) h1) (by simp_all),rfl⟩
  refine ownsRow_grow ?_
  have:=Lib.ownsRow_putRow (q:=n) (k:=l.length) (ys:=l.mergeSort λx y=>decide (x<=y)) hr kc jp
  grind[List.length_mergeSort]
def Vb(w:World)(base:Nat)(v:Value)(l:List Int)(h:kL w base 3 1 v l.length (cJ l))(hl:l.length<=9223372036854775807):
  Calls Tryz.prog 135 #[v] w λe w'=>∃v' l',e=.returned v'/\l'.length<=l.length/\(∀x,x∈l'↔x∈l)/\kL w' base 3 1 v' l'.length (cJ l')/\Below base w w'/\l'=Lib.compact l/\(v=.slice none 0 0->v'=.slice none 0 0):=by
 by_cases hv:v=.slice none 0 0
 .subst hv
  refine(Tryz.slices_Compact_int_empty none 0 w).mono λe w' ⟨he,hw⟩=>⟨_,l,he,jp,λ_=>Iff.rfl,by grind,by grind[Below.refl],by rw[fm (Va h)];rfl,λh=>h⟩
 .have hr:=FU.mp h
  obtain⟨g,cap,rfl,h1,h2,h3,h4,h5,h6⟩:=Lib.holds_of_ownsRow hr hv
  refine(Tryz.slices_Compact_int g 0 cap l w h6 hl h3).mono ?_
  rintro e w' ⟨he,q,rfl⟩
  have hle:=Lib.compact_length_le l
  refine⟨_,Lib.compact l,he,hle,λx=>mem_compact,FU.mpr ?_,Lib.below_putRow (Below.refl base w) h1,rfl,λh=>absurd h hv⟩
  grind[Lib.ownsRow_putRow,List.take_left]
def mks(l:List Eh)(k:Nat):List Int:=((l.take k).map λx=>x.k).filter λx=>x !=-1
def afJ(l:List Eh):mks l 0=[]:=by rfl
def akj{l:List Eh}{k:Nat}(h:k<l.length)(h2:(ix l k).k≠-1):mks l (k+1)=mks l k++[(ix l k).k]:=by grind[mks,bD]
def aoW{l:List Eh}{k:Nat}(h:k<l.length)(h2:(ix l k).k=-1):mks l (k+1)=mks l k:=by grind[mks,bD]
def akk(l:List Eh)(k:Nat):(mks l k).length<=k:=by grind[Go.Proofs.Ins.mks]
def akl{a:iK}{c:Int}:c∈mks a.flatten a.flatten.length↔c≠-1/\Oa a c=true:=by grind[mks,Oa,memT]
def ar7(w:World)(T:TypeId)(a:iK)(e:Ending)(w':World):Prop:=
 ∃v l,e=.returned v/\l.length<=a.flatten.length/\(∀c,c∈l↔c≠-1/\Oa a c=true)/\kL w' w.heap.size T 1 v l.length (cJ l)/\Below w.heap.size w w'/\l=uI a/\(l=[]->v=.slice none 0 0)
set_option maxRecDepth 100000 in
def Vd(p:Nat->Prop)(v:Value)(a:iK)(w:World)(hA:vN w p v a)(la:a.length<=140737488351232)(lf:a.flatten.length<=1000000):
  Calls Tryz.prog 91 #[.agg #[v]] w (ar7 w 3 a):=by
 have HC:=jx (λw' (h:vN w' p v a)=>U9 p v a w' h la lf)
 have HA:=jx hA
 have HM:=jx (λc=>akl (a:=a) (c:=c))
 have HY:=jx (λk h h2=>akj (l:=a.flatten) (k:=k) h h2)
 have HN:=jx (λk h h2=>aoW (l:=a.flatten) (k:=k) h h2)
 have HL:=jx (akk a.flatten)
 have H0:=jx (afJ a.flatten)
 have HML:=jx (show uI a=Lib.compact ((mks a.flatten a.flatten.length).mergeSort λx y=>decide (x<=y)) by unfold uI mks;rw[bX])
 unfold ar7
 clear hA
 generalize hmm:mks a.flatten=MK at*
 generalize hfl:a.flatten=fl at*
 clear hmm hfl
 generalize hN:fl.length=N at*
 go_enter Tryz.func91,Tryz.ntmps91
 go_wp2_with fail
 refine(HC.out _ (HA.out.on ((Below.refl _ _).alloc jp _))).mono ?_
 rintro e w1 ⟨v1,rfl,ho1,hb1⟩
 obtain⟨-,HB⟩:=am8 hb1
 have HB:=jx HB
 have hz1:=HB.out.size
 have hsl:=ho1.sl
 obtain⟨a1,cap1,rfl,-,-⟩:=hsl.form
 have HSL:=jx hsl
 clear ho1 hb1 hsl HC HA
 go_wp2_with fail
 go_loopw [3,10] (λv i wr=>∃k:Nat,i=.int .i64 k/\k<=N/\kL wr w1.heap.size 3 1 v (MK k).length (cJ (MK k))/\Below w1.heap.size w1 wr/\Hid (MK k=[]->v=.slice none 0 0)) (λ_ i _=>N-(intOf i).toNat)
 case atStart=>exact⟨0,rfl,jb,by rw[H0.out];exact kL.nil _ _ _ _ _,Below.refl _ _,jx λ_=>rfl⟩
 case round=>
  obtain⟨k,rfl,hk,hown,hbel,HNV⟩:=hrel;have HO:=jx hown;have HBR:=jx hbel;have hsz:=hbel.size;by_cases hlt:k<N
  .obtain⟨b,off,rfl,-,-,-⟩:=HSL.out.get jb;have e0:=HSL.out.cellAt rfl hbel (i:=k) (j:=0) hlt jb;have e1:wr.cell? ⟨b,off+k*5+1,none⟩=some (Value.bool (ix fl k).b):=HSL.out.cellAt rfl hbel (i:=k) (j:=1) hlt jb;have e2:wr.cell? ⟨b,off+k*5+2,none⟩=some (Value.bool (ix fl k).a.n):=HSL.out.cellAt rfl hbel (i:=k) (j:=2) hlt jb;have e3:wr.cell? ⟨b,off+k*5+3,none⟩=some (Value.string (ix fl k).a.s):=HSL.out.cellAt rfl hbel (i:=k) (j:=3) hlt jb;have e4:wr.cell? ⟨b,off+k*5+4,none⟩=some (Value.string (ix fl k).a.d):=HSL.out.cellAt rfl hbel (i:=k) (j:=4) hlt jb;rw[cB]at e0;have e0':wr.cell? ⟨b,off+k*5,none⟩=some (Value.int .i64 (ix fl k).k):=e0;have HYK:=jx (HY.out k jb);have HNK:=jx (HN.out k jb);have hlk:=HL.out k;have i1:(0:Int)<=(k:Int):=jb;have i2:(k:Int)<(N:Int):=jb;clear e0 hown hbel HY HN HL HM;generalize ar8:MK (k+1)=M1 at*;have HM1:=jx ar8;generalize auF:MK k=M0 at*;clear ar8 auF;generalize (ix fl k).k=x at*;generalize (ix fl k).b=pb at*;generalize (ix fl k).a.n=an at*;generalize (ix fl k).a.s=as' at*;generalize (ix fl k).a.d=ad at*;by_cases hx:x=-1
   .have h1:(x !=-1)=false:=by simp[hx]
    have HX:=jx (HNK.out hx);clear HYK HNK;go_wp2;go_roundw
    case rel=>exact⟨k+1,by go_num,jb,by rw[HM1.out,HX.out];exact HO.out.below ((Below.refl _ _).alloc jp _) jp,HBR.out.alloc jb _,jx λh=>HNV.out (by rwa[HM1.out,HX.out]at h)⟩
    case measure=>simp[intOf];omega
   .have h1:(x !=-1)=true:=by simp[hx]
    have HX:=jx (HYK.out hx);have HO2:=jx (HO.out.below ((Below.refl wr.heap.size wr).alloc jp (.cells #[.int .i64 x,.bool pb,.bool an,.string as',.string ad] 97)) jp);have hz2:(wr.alloc (.cells #[.int .i64 x,.bool pb,.bool an,.string as',.string ad] 97)).heap.size=wr.heap.size+1:=by simp
    clear HYK HNK;go_wp2_with (refine Kt _ _ 127 3 1 8 w1.heap.size _ _ _ [.int .i64 x] (by rfl) (by rfl) Tryz.underlying127 aiM jb (by rfl) (by rfl) (by simp[Value.oneCell']) (by rw[World.size_alloc];rfl) HO2.out jb jb (by rw[World.size_alloc];omega) ?_;intro v9 w9 ho9 hb9;have HO9:=jx ho9;have HB9:=jx hb9;clear ho9 hb9)
    go_roundw
    case rel=>
     refine⟨k+1,by go_num,jb,?_,(HBR.out.alloc jb _).trans HB9.out,jx λh=>by rw[HM1.out,HX.out]at h;simp at h⟩;rw[HM1.out,HX.out,aR];exact HO9.out.congr λj hj=>aki _ _ j hj
    case measure=>simp[intOf];omega
  .obtain rfl:k=N:=jb;have hnl:decide ((k:Int)<(k:Int))=false:=by simp
   have hlk:=HL.out k;have HST:=jx (afI wr w1.heap.size u3 (MK k) hown jb jb);go_wp2_with fail;refine HST.out.mono ?_;rintro e w2 ⟨rfl,l2,hl2,hm2,ho2,hb2,hs2⟩;have HCP:=jx (Vb w2 w1.heap.size u3 l2 ho2 jb);have HB2:=jx (HBR.out.trans hb2);have HM2:=jx hm2;have HS2:=jx hs2;clear ho2 hb2 HST hm2 hown hbel hs2;go_wp2_with fail;refine HCP.out.mono ?_;rintro e w3 ⟨v3,l3,rfl,hl3,hm3,ho3,hb3,hc3,hn3⟩;have HO3:=jx ho3;have HM3:=jx hm3;have HB3:=jx (HB2.out.trans hb3);have HC3:=jx hc3;have HN3:=jx hn3;clear ho3 hm3 hb3 hc3 hn3;go_wp2;go_ret;exact⟨_,l3,rfl,jb,λc=>by rw[HM3.out,HM2.out,HM.out],HO3.out.mono jb,chain HB.out HB3.out jp,by rw[HC3.out,HS2.out,HML.out],λh=>HN3.out (HNV.out (List.eq_nil_iff_forall_not_mem.mpr λx hx=>by have:=(HM3.out x).mpr ((HM2.out x).mpr hx);rw[h]at this;cases this))⟩
end Go.Proofs.Ins
namespace Go.Proofs.Xe
open Go.RowKit Go.Proofs.Ins
theorem Ve:∀l:List Int,ones l.length (λi=>B.int .i64 (ix l i))=l.map (B.int .i64)
 |[]=>rfl
 |x::l=>by show [B.int .i64 x]++dF l.length (λi=>[B.int .i64 (ix l i)])=_;have:=Ve l;unfold ones at this;rw[this];rfl
theorem Vf(φ:Ph):∀l:List Int,jU φ (l.map (B.int .i64)) (l.map (Value.int .i64))
 |[]=>trivial
 |_::l=>⟨rfl,Vf φ l⟩
def afK(l:List Int)(σ:St):Option (V×St):=if l.length=0 then some (.c .bg,σ)else some (.c (.sl σ.aj 0 l.length .opn),⟨hset σ.h σ.aj ⟨ones l.length (λi=>.int .i64 (ix l i)),some (1,3)⟩,σ.aj+1⟩)
def aaf{φ:Ph}:∀{n:Nat}{G:Nat->List B}{F:Nat->List Value},(∀i,i<n->jU φ (G i) (F i))->jU φ (dF n G) ((List.range n).flatMap F)
 |0,_,_,_=>trivial
 |n+1,G,F,h=>by rw[List.range_succ_eq_map,gO,ic];exact jU.append (h 0 jb) (aaf λi hi=>h (i+1) jb)
def afL(l:List Eh)(σ:St):Option (V×St):=if l.length=0 then some (.c .bg,σ)else some (.c (.sl σ.aj 0 l.length .opn),⟨hset σ.h σ.aj ⟨dF l.length λi=>Jb (ix l i),some (5,97)⟩,σ.aj+1⟩)
noncomputable section
open Classical in
def afM(args:List V)(σ:St):Option (V×St):=match args with
 |[.agg [v]]=>if h:∃a,fE (λ_=>True) σ.h v a/\a.length<=1000000/\a.flatten.length<=1000000 then afK (uI (Classical.choose h)) σ else none
 |_=>none
open Classical in
def afN(args:List V)(σ:St):Option (V×St):=match args with
 |[.c v]=>if h:∃a,fE (λ_=>True) σ.h v a/\a.length<=1000000/\a.flatten.length<=1000000 then afL (Classical.choose h).flatten σ else none
 |_=>none
def afO(f:Nat)(args:List V)(σ:St):Option (V×St):=
 if f=133 then afN args σ
 else if f=91 then afM args σ
 else none
end
def akm{p:Nat->Prop}{σ:St}{v:B}{a:iK}(ha:fE p σ.h v a)(h1:a.length<=1000000)(h2:a.flatten.length<=1000000):afM [.agg [v]] σ=afK (uI a) σ:=by
 have h:∃a,fE (λ_=>True) σ.h v a/\a.length<=1000000/\a.flatten.length<=1000000:=⟨a,ha.keep (λ_ _=>rfl) λ_ _=>trivial,h1,h2⟩
 unfold afM;dsimp only;rw[dif_pos h,(Classical.choose_spec h).1.uniq ha]
def afP{args:List V}{σ σ':St}{v:V}(h:afM args σ=some (v,σ')):∃t a,args=[.agg [t]]/\afK (uI a) σ=some (v,σ')/\fE (λ_=>True) σ.h t a/\a.length<=1000000/\a.flatten.length<=1000000:=by
 unfold afM at h;split at h
 .next t=>
  split at h
  .grind
  .cases h
 .cases h
def akn{p:Nat->Prop}{σ:St}{v:B}{a:iK}(ha:fE p σ.h v a)(h1:a.length<=1000000)(h2:a.flatten.length<=1000000):afN [.c v] σ=afL a.flatten σ:=by
 have h:∃a,fE (λ_=>True) σ.h v a/\a.length<=1000000/\a.flatten.length<=1000000:=⟨a,ha.keep (λ_ _=>rfl) λ_ _=>trivial,h1,h2⟩
 unfold afN;dsimp only;rw[dif_pos h,(Classical.choose_spec h).1.uniq ha]
def afQ{args:List V}{σ σ':St}{v:V}(h:afN args σ=some (v,σ')):∃t a,args=[.c t]/\afL a.flatten σ=some (v,σ')/\fE (λ_=>True) σ.h t a/\a.length<=1000000/\a.flatten.length<=1000000:=by
 unfold afN at h;split at h
 .next t=>
  split at h
  .grind
  .cases h
 .cases h
def aag{φ:Ph}{bC:Array Value}{x:V}(h:Fb φ [x] bC.toList):∃u,bC= #[u]/\RV φ x u:=by
 obtain⟨l⟩:=bC;match l,h with
 |[u],h=>exact⟨u,rfl,h.1⟩
def ako(f:Nat)(args:List V)(σ:St)(v:V)(σ':St)(h:afO f args σ=some (v,σ')):okF Tryz.prog f/\∀(N:Nat) (w0:World) (φ:Ph) (w:World) (bC:Array Value),Rel N w0 φ σ w->Fb φ args bC.toList->
  Calls Tryz.prog f bC w λe w'=>∃cv,e=.returned cv/\∃φ',Ext σ.aj φ φ'/\Rel N w0 φ' σ' w'/\RV φ' v cv/\σ.aj<=σ'.aj:=by
 unfold afO at h
 split at h
 .next e=>
  subst e
  obtain⟨t,a,rfl,h3,h1,la,lf⟩:=afQ h
  refine⟨xH (by kernel_rfl),λN w0 φ w bC hR ha=>?_⟩
  obtain⟨u,rfl,hu⟩:=aag ha
  refine(FT (InW w) u a w (h1.un hR hu) jb lf).mono ?_
  rintro e w' ⟨v',rfl,ho,hb,hz⟩
  generalize a.flatten=l at*
  unfold afL at h3
  split at h3
  .next h0=>
   cases h3
   exact⟨_,rfl,φ,Ext.refl _ _,hR.below hb,hz h0,jp⟩
  .next h0=>
   cases h3
   obtain⟨⟨-,h4⟩,-⟩:=ho
   rcases h4 with⟨-,h4⟩|⟨c,cap,cur,rfl,hc,hg,hnc,hm,hs,hx⟩
   .omega
   .have hN:σ.new ⟨dF l.length λi=>Jb (ix l i),some (5,97)⟩=some (σ.aj,⟨hset σ.h σ.aj ⟨dF l.length λi=>Jb (ix l i),some (5,97)⟩,σ.aj+1⟩):=jv _ _
    have hol:(dF l.length λi=>Jb (ix l i)).length=l.length*5:=wV λ_=>rfl
    have hcl:c<w'.heap.size:=(eo.mp hg).1
    refine⟨_,rfl,_,vC φ σ.aj (c,cap),(hR.below hb).new hN (w':=w') ⟨rfl,rfl,rfl,jp,λ_ _ _=>rfl⟩ (ag hR.size hc) hcl (λi p hi _ e=>?_) (.inl ⟨Cm jj,cur,97,hg,?_,?_,λe t he=>?_⟩),.inl ⟨(c,cap),cap,gu _ _ _,rfl,hnc,?_,rfl,rfl⟩,by simp⟩
    .have:=hR.lo i p hi
     omega
    .show jU φ (dF l.length λi=>Jb (ix l i)) (cur.toList.take (dF l.length λi=>Jb (ix l i)).length)
     rw[hol,hx]
     exact aaf λi _=>⟨rfl,rfl,rfl,rfl,rfl,trivial⟩
    .grind
    .grind
    grind[maxLen]
 .split at h
  .next e=>
   subst e
   obtain⟨t,a,rfl,h3,h1,la,lf⟩:=afP h
   refine⟨xH (by kernel_rfl),λN w0 φ w bC hR ha=>?_⟩
   obtain⟨u,rfl,hu⟩:=aag ha
   obtain⟨r,rfl,hr⟩:=hu
   obtain⟨rl⟩:=r
   match rl,hr with
   |[tv],⟨ht,_⟩=>
    refine(Vd (InW w) tv a w (h1.un hR ht) jb lf).mono ?_
    rintro e w' ⟨v',l,rfl,-,-,ho,hb,hl,hn⟩
    rw[<-hl]at h3
    unfold afK at h3
    split at h3
    .next h0=>
     cases h3
     exact⟨_,rfl,φ,Ext.refl _ _,hR.below hb,hn (fm h0),jp⟩
    .next h0=>
     cases h3
     obtain⟨⟨-,h4⟩,-⟩:=ho
     rcases h4 with⟨-,h4⟩|⟨c,cap,cur,rfl,hc,hg,hnc,hm,hs,hx⟩
     .omega
     .have hN:σ.new ⟨ones l.length (λi=>.int .i64 (ix l i)),some (1,3)⟩=some (σ.aj,⟨hset σ.h σ.aj ⟨ones l.length (λi=>.int .i64 (ix l i)),some (1,3)⟩,σ.aj+1⟩):=jv _ _
      rw[aae,ga]at hx
      have hol:(ones l.length λi=>B.int .i64 (ix l i)).length=l.length:=by grind[LC]
      have hcl:c<w'.heap.size:=(eo.mp hg).1
      refine⟨_,rfl,_,vC φ σ.aj (c,cap),(hR.below hb).new hN (w':=w') ⟨rfl,rfl,rfl,jp,λ_ _ _=>rfl⟩ (ag hR.size hc) hcl (λi p hi _ e=>?_) (.inl ⟨Cm jj,cur,3,hg,?_,?_,λe t he=>?_⟩),.inl ⟨(c,cap),cap,gu _ _ _,rfl,hnc,?_,rfl,rfl⟩,by simp⟩
      .have:=hR.lo i p hi
       omega
      .grind[Ve,Vf]
      .grind
      .grind
      grind[maxLen]
  .cases h
def akp(f:Nat)(args:List V)(σ:St):Option (V×St):=afO f args σ
def akq(f:Nat)(args:List V)(σ:St)(v:V)(σ':St)(h:akp f args σ=some (v,σ')):okF Tryz.prog f/\∀(N:Nat) (w0:World) (φ:Ph) (w:World) (bC:Array Value),Rel N w0 φ σ w->Fb φ args bC.toList->
  Calls Tryz.prog f bC w λe w'=>∃cv,e=.returned cv/\∃φ',Ext σ.aj φ φ'/\Rel N w0 φ' σ' w'/\RV φ' v cv/\σ.aj<=σ'.aj:=ako f args σ v σ' h
abbrev akr:List Nat:=[76
 ,39
 ,81
 ,40
 ,83
 ,82
 ,84
 ,85
 ,49
 ,48
 ,26
 ,41
 ,75
 ,37
 ,45
 ,151
 ,46
 ,23
 ,38
 ,17
 ,98
 ,44
 ,22
 ,60
 ,117
 ,115
 ,16
 ,136
 ,59
 ]
def acE:Nat->List V->St->Option (V×St):=(Eb akr).Uj
def aah{f:Nat}(h:akr.contains f=false)(args:List V)(σ:St):acE f args σ=none:=by unfold acE Eb;dsimp only;rw[h];rfl
class asa (E:Env):Prop where
 o:∀f args σ r,acE f args σ=some r->E.Uj f args σ=some r
instance {E:Env}{f:Nat} [h:asa E] [m:Mm f akr]:jq E f:=⟨λargs v σ hv=>h.o f args σ _ (by unfold acE;exact jq.o (E:=Eb akr) args v σ hv)⟩
def aks(f:Nat):Prop:=okF Tryz.prog f/\∀w,Calls Tryz.prog f #[] w λe w'=>e=.returned (.bool true)/\Below w.heap.size w w'
def awN:List Nat:=[
 1000000]
noncomputable section
open Classical in
def asb(f:Nat)(args:List V)(σ:St):Option (V×St):=bif awN.contains f then(match args with|[]=>if aks f then some (.c (.bool true),σ)else none|_=>none)else none
def Vg(f:Nat)(args:List V)(σ:St):Option (V×St):=match acE f args σ with
 |some r=>some r
 |none=>match akp f args σ with
  |some r=>some r
  |none=>asb f args σ
end
class Yj (E:Env):Prop where
 a:∀f args σ r,Vg f args σ=some r->E.Uj f args σ=some r
instance {E:Env} [h:Yj E]:asa E:=⟨λf args σ r hv=>h.a f args σ r (by unfold Vg;rw[hv])⟩
def Pg{E:Env}[hE:Yj E]{f:Nat}{args:List V}{v:V}{σ σ2:St}{K:V->St->Prop}(h:Vg f args σ=some (v,σ2)):aC E f args σ K=K v σ2:=by
 refine propext ⟨λ⟨n,v',σ',h1,h2⟩=>?_,λhk=>UM (hE.a f args σ _ h) hk⟩;have h3:iJ E 1 f args σ=some (v,σ2):=by rw[iJ];unfold Fa;rw[hE.a f args σ _ h]
 have a:=mF (show n<=n+1 by omega) f args σ _ h1;have b:=mF (show 1<=n+1 by omega) f args σ _ h3;rw[a]at b;cases b;exact h2
section
variable {E:Env} [Yj E] {σ:St} {K:V→St→Prop}
end
end Go.Proofs.Xe
namespace Go.Proofs.Xe
open Go.Proofs
set_option maxRecDepth 1000000
set_option maxHeartbeats 8000000
def EN:Env:=⟨tF Tryz.prog,Vg⟩
instance av7:Yj EN:=⟨λ_ _ _ _ h=>h⟩
structure jE(k:Nat) where
 a:AF
 g:tG Tryz.prog k=some a:=by conv=>(lhs;reduce;simp only[amk])
 i:UD Tryz.prog k a=true:=by kernel_rfl
 o:∀args σ,EN.Uj k args σ=none:=by exact λ_ _=>rfl
def jE.h{k:Nat}(b:jE k):EN.fns k=some b.a:=amj b.g b.i
def oh:jE 11:=.mk _
def qP:jE 13:=.mk _
def qQ:jE 14:=.mk _
def Bl:jE 18:=.mk _
def vO:jE 24:=.mk _
def pJ:jE 30:=.mk _
def qU:jE 31:=.mk _
def jF:jE 32:=.mk _
def jW:jE 33:=.mk _
def qV:jE 36:=.mk _
def mW:jE 42:=.mk _
def Bo:jE 43:=.mk _
def pK:jE 52:=.mk _
def lT:jE 53:=.mk _
def sS:jE 54:=.mk _
def ig:jE 55:=.mk _
def iW:jE 56:=.mk _
def jG:jE 57:=.mk _
def jH:jE 58:=.mk _
def nH:jE 61:=.mk _
def sU:jE 62:=.mk _
def kS:jE 63:=.mk _
def jh:jE 64:=.mk _
def qW:jE 65:=.mk _
def jI:jE 66:=.mk _
def pO:jE 67:=.mk _
def kT:jE 68:=.mk _
def kU:jE 69:=.mk _
def sV:jE 70:=.mk _
def ji:jE 71:=.mk _
def qX:jE 72:=.mk _
def iY:jE 90:=.mk _
def oq:jE 92:=.mk _
def mM:jE 93:=.mk _
def sW:jE 94:=.mk _
def jX:jE 95:=.mk _
def kX:jE 96:=.mk _
def kY:jE 97:=.mk _
def gy:jE 99:=.mk _
def jk:jE 100:=.mk _
def pR:jE 101:=.mk _
def sZ:jE 102:=.mk _
def pU:jE 103:=.mk _
def jJ:jE 104:=.mk _
def jl:jE 105:=.mk _
def iE:jE 106:=.mk _
def nI:jE 107:=.mk _
def qY:jE 108:=.mk _
def tq:jE 109:=.mk _
def vP:jE 110:=.mk _
def pV:jE 111:=.mk _
def dX:jE 112:=.mk _
def vS:jE 113:=.mk _
def iQ:jE 114:=.mk _
def jY:jE 116:=.mk _
def dS:jE 131:=.mk _
def iL:jE 132:=.mk _
def jK:jE 137:=.mk _
def fA:jE 138:=.mk _
def jL:jE 139:=.mk _
def jM:jE 140:=.mk _
def jO:jE 141:=.mk _
def iR:jE 142:=.mk _
def tu:jE 143:=.mk _
def iZ:jE 144:=.mk _
def tH:jE 145:=.mk _
def vT:jE 146:=.mk _
def pW:jE 147:=.mk _
def cZ:jE 148:=.mk _
def qZ:jE 149:=.mk _
def ou:jE 150:=.mk _
def jZ:jE 152:=.mk _
def iq:jE 153:=.mk _
def fC:jE 171:=.mk _
def vU:jE 175:=.mk _
def tJ:jE 176:=.mk _
def ku:jE 177:=.mk _
def mO:jE 178:=.mk _
def kZ:jE 179:=.mk _
def lu:jE 180:=.mk _
def lU:jE 181:=.mk _
def lC:jE 182:=.mk _
def vV:jE 204:=.mk _
def fZ:jE 205:=.mk _
def vW:jE 206:=.mk _
end Go.Proofs.Xe
end
