import Derived.Test.YtchhojplceoifaaGreatDoorYd13
import Derived.Lib.OwnBridge
set_option linter.all false
set_option maxHeartbeats 8000000
noncomputable section
namespace Go.Proofs.Ins
open Go.RowKit
def DN{F:Nat->List Value}{sz:Nat}:∀(n:Nat),(∀i,i<n->(F i).length=sz)->((List.range n).flatMap F).length=n*sz
 |0,_=>by simp
 |n+1,h=>by rw[fi,cP,aD,DN n (λi hi=>h i jb)];simp[h n jb,cg]
def cJ(l:List Int)(j:Nat):List Value:=[.int .i64 (l.getD j 0)]
def acU(l:List Int):(List.range l.length).flatMap (cJ l)=l.map (Value.int .i64):=by
 apply List.ext_getElem?;intro j;by_cases h:j<l.length
 .have:=yX (sz:=1) (F:=cJ l) l.length (λi _=>rfl) j 0 h jb;grind[cJ]
 .rw[List.getElem?_eq_none,List.getElem?_eq_none]
  .simpa using h
  .rw[DN (sz:=1) l.length (λi _=>rfl)];omega
def anu(l:List Int)(x:Int)(j:Nat)(hj:j<l.length+1):(if j<l.length then cJ l j else [.int .i64 x])=cJ (l++[x]) j:=by grind[cJ]
def IL{w:World}{base:Nat}{T:TypeId}{v:Value}{l:List Int}:mO w base T 1 v l.length (cJ l)↔w.ownsRow base T 1 v l.length (l.map (Value.int .i64)):=by unfold mO;rw[acU];exact⟨λh=>h.1,λh=>⟨h,λ_ _=>rfl⟩⟩
def below_grow{B:Nat}{w0 w:World}{os:Array Obj}(h:Below B w0 w)(hB:B<=w.heap.size):Below B w0 (Sort.grow w os):=
 ⟨h.os,h.tape,h.output,by have:=h.size;grind[Sort.grow],λk hk=>by rw[<-h.block k hk];grind[Sort.heap_grow_old]⟩
def ownsRow_grow{w:World}{base:Nat}{T:TypeId}{v:Value}{n:Nat}{xs:List Value}{os:Array Obj}(h:w.ownsRow base T 1 v n xs):(Sort.grow w os).ownsRow base T 1 v n xs:=by
 obtain⟨h1,h2⟩:=h;refine⟨h1,?_⟩;rcases h2 with h2|⟨g,cap,cur,hv,hb,hg,r⟩
 .grind
 .exact .inr ⟨g,cap,cur,hv,hb,by grind[Sort.heap_grow_old],r⟩
def X7{w:World}{base:Nat}{T:TypeId}{sz n:Nat}{F:Nat->List Value}(h:mO w base T sz (.slice none 0 0) n F):n=0:=by obtain⟨⟨-,h1⟩,-⟩:=h;grind
def aiE(w:World)(base:Nat)(v:Value)(l:List Int)(h:mO w base 3 1 v l.length (cJ l))(hb:base<=w.heap.size)(hl:l.length<4611686018427387904):
  Calls Tryz.prog 182 #[v] w λe w'=>e=.returned (.tuple #[])/\∃l':List Int,l'.length=l.length/\(∀x,x∈l'↔x∈l)/\mO w' base 3 1 v l'.length (cJ l')/\Below base w w'/\l'=l.mergeSort λx y=>decide (x<=y):=by
 by_cases hv:v=.slice none 0 0
 .subst hv
  refine(Tryz.slices_Sort_int_none none 0 w).mono λe w' ⟨he,hw⟩=>⟨he,l,rfl,λ_=>Iff.rfl,by grind,by grind[Below.refl],by rw[fe (X7 h)];simp⟩
 .have hr:=IL.mp h
  obtain⟨g,cap,rfl,h1,h2,h3,h4,h5,h6⟩:=Lib.holds_of_ownsRow hr hv
  refine(Tryz.slices_Sort_int g 0 cap l w h6 h2 hl).mono ?_
  rintro e w' ⟨he,n,os,rfl⟩
  refine⟨he,l.mergeSort λx y=>decide (x<=y),by simp,λx=>List.mem_mergeSort,IL.mpr ?_,below_grow (Lib.below_putRow (Below.refl base w) h1) (by simp_all),rfl⟩
  refine ownsRow_grow ?_
  have:=Lib.ownsRow_putRow (q:=n) (k:=l.length) (ys:=l.mergeSort λx y=>decide (x<=y)) hr kc jp
  grind[List.length_mergeSort]
def X8(w:World)(base:Nat)(v:Value)(l:List Int)(h:mO w base 3 1 v l.length (cJ l))(hl:l.length<=9223372036854775807):
  Calls Tryz.prog 183 #[v] w λe w'=>∃v' l',e=.returned v'/\l'.length<=l.length/\(∀x,x∈l'↔x∈l)/\mO w' base 3 1 v' l'.length (cJ l')/\Below base w w'/\l'=Lib.compact l/\(v=.slice none 0 0->v'=.slice none 0 0):=by
 by_cases hv:v=.slice none 0 0
 .subst hv
  refine(Tryz.slices_Compact_int_empty none 0 w).mono λe w' ⟨he,hw⟩=>⟨_,l,he,jp,λ_=>Iff.rfl,by grind,by grind[Below.refl],by rw[fe (X7 h)];rfl,λh=>h⟩
 .have hr:=IL.mp h
  obtain⟨g,cap,rfl,h1,h2,h3,h4,h5,h6⟩:=Lib.holds_of_ownsRow hr hv
  refine(Tryz.slices_Compact_int g 0 cap l w h6 hl h3).mono ?_
  rintro e w' ⟨he,q,rfl⟩
  have hle:=Lib.compact_length_le l
  refine⟨_,Lib.compact l,he,hle,λx=>mem_compact,IL.mpr ?_,Lib.below_putRow (Below.refl base w) h1,rfl,λh=>absurd h hv⟩
  grind[Lib.ownsRow_putRow,List.take_left]
def mks(l:List yg)(k:Nat):List Int:=((l.take k).map λx=>x.k).filter λx=>x !=-1
def aiF(l:List yg):mks l 0=[]:=by rfl
def anv{l:List yg}{k:Nat}(h:k<l.length)(h2:(ix l k).k≠-1):mks l (k+1)=mks l k++[(ix l k).k]:=by grind[mks,bU]
def asP{l:List yg}{k:Nat}(h:k<l.length)(h2:(ix l k).k=-1):mks l (k+1)=mks l k:=by grind[mks,bU]
def anw(l:List yg)(k:Nat):(mks l k).length<=k:=by grind[Go.Proofs.Ins.mks]
def anx{a:fC}{c:Int}:c∈mks a.flatten a.flatten.length↔c≠-1/\OT a c=true:=by grind[mks,OT,memT]
def awq(w:World)(T:TypeId)(a:fC)(e:Ending)(w':World):Prop:=
 ∃v l,e=.returned v/\l.length<=a.flatten.length/\(∀c,c∈l↔c≠-1/\OT a c=true)/\mO w' w.heap.size T 1 v l.length (cJ l)/\Below w.heap.size w w'/\l=xg a/\(l=[]->v=.slice none 0 0)
set_option maxRecDepth 100000 in
def X9(p:Nat->Prop)(v:Value)(a:fC)(w:World)(hA:yh w p v a)(la:a.length<=140737488351232)(lf:a.flatten.length<=1000000):
  Calls Tryz.prog 140 #[.agg #[v]] w (awq w 3 a):=by
 have HC:=jx (λw' (h:yh w' p v a)=>X6 p v a w' h la lf)
 have HA:=jx hA
 have HM:=jx (λc=>anx (a:=a) (c:=c))
 have HY:=jx (λk h h2=>anv (l:=a.flatten) (k:=k) h h2)
 have HN:=jx (λk h h2=>asP (l:=a.flatten) (k:=k) h h2)
 have HL:=jx (anw a.flatten)
 have H0:=jx (aiF a.flatten)
 have HML:=jx (show xg a=Lib.compact ((mks a.flatten a.flatten.length).mergeSort λx y=>decide (x<=y)) by unfold xg mks;rw[cB])
 unfold awq
 clear hA
 generalize hmm:mks a.flatten=MK at*
 generalize hfl:a.flatten=fl at*
 clear hmm hfl
 generalize hN:fl.length=N at*
 go_enter Tryz.func140,Tryz.ntmps140
 go_wp2_with fail
 refine(HC.out _ (HA.out.on ((Below.refl _ _).alloc jp _))).mono ?_
 rintro e w1 ⟨v1,rfl,ho1,hb1⟩
 obtain⟨-,HB⟩:=aqP hb1
 have HB:=jx HB
 have hz1:=HB.out.size
 have hsl:=ho1.sl
 obtain⟨a1,cap1,rfl,-,-⟩:=hsl.form
 have HSL:=jx hsl
 clear ho1 hb1 hsl HC HA
 go_wp2_with fail
 go_loopw [3,10] (λv i wr=>∃k:Nat,i=.int .i64 k/\k<=N/\mO wr w1.heap.size 3 1 v (MK k).length (cJ (MK k))/\Below w1.heap.size w1 wr/\Hid (MK k=[]->v=.slice none 0 0)) (λ_ i _=>N-(intOf i).toNat)
 case atStart=>exact⟨0,rfl,jb,by rw[H0.out];exact mO.nil _ _ _ _ _,Below.refl _ _,jx λ_=>rfl⟩
 case round=>
  obtain⟨k,rfl,hk,hown,hbel,HNV⟩:=hrel;have HO:=jx hown;have HBR:=jx hbel;have hsz:=hbel.size;by_cases hlt:k<N
  .obtain⟨b,off,rfl,-,-,-⟩:=HSL.out.get jb;have e0:=HSL.out.cellAt rfl hbel (i:=k) (j:=0) hlt jb;have e1:wr.cell? ⟨b,off+k*5+1,none⟩=some (Value.bool (ix fl k).b):=HSL.out.cellAt rfl hbel (i:=k) (j:=1) hlt jb;have e2:wr.cell? ⟨b,off+k*5+2,none⟩=some (Value.bool (ix fl k).a.n):=HSL.out.cellAt rfl hbel (i:=k) (j:=2) hlt jb;have e3:wr.cell? ⟨b,off+k*5+3,none⟩=some (Value.string (ix fl k).a.s):=HSL.out.cellAt rfl hbel (i:=k) (j:=3) hlt jb;have e4:wr.cell? ⟨b,off+k*5+4,none⟩=some (Value.string (ix fl k).a.d):=HSL.out.cellAt rfl hbel (i:=k) (j:=4) hlt jb;rw[cA]at e0;have e0':wr.cell? ⟨b,off+k*5,none⟩=some (Value.int .i64 (ix fl k).k):=e0;have HYK:=jx (HY.out k jb);have HNK:=jx (HN.out k jb);have hlk:=HL.out k;have i1:(0:Int)<=(k:Int):=jb;have i2:(k:Int)<(N:Int):=jb;clear e0 hown hbel HY HN HL HM;generalize awr:MK (k+1)=M1 at*;have HM1:=jx awr;generalize ay6:MK k=M0 at*;clear awr ay6;generalize (ix fl k).k=x at*;generalize (ix fl k).b=pb at*;generalize (ix fl k).a.n=an at*;generalize (ix fl k).a.s=as' at*;generalize (ix fl k).a.d=ad at*;by_cases hx:x=-1
   .have h1:(x !=-1)=false:=by simp[hx]
    have HX:=jx (HNK.out hx);clear HYK HNK;go_wp2;go_roundw
    case rel=>exact⟨k+1,by go_num,jb,by rw[HM1.out,HX.out];exact HO.out.below ((Below.refl _ _).alloc jp _) jp,HBR.out.alloc jb _,jx λh=>HNV.out (by rwa[HM1.out,HX.out]at h)⟩
    case measure=>simp[intOf];omega
   .have h1:(x !=-1)=true:=by simp[hx]
    have HX:=jx (HYK.out hx);have HO2:=jx (HO.out.below ((Below.refl wr.heap.size wr).alloc jp (.cells #[.int .i64 x,.bool pb,.bool an,.string as',.string ad] 126)) jp);have hz2:(wr.alloc (.cells #[.int .i64 x,.bool pb,.bool an,.string as',.string ad] 126)).heap.size=wr.heap.size+1:=by simp
    clear HYK HNK;go_wp2_with (refine NW _ _ 31 3 1 8 w1.heap.size _ _ _ [.int .i64 x] (by rfl) (by rfl) Tryz.underlying31 alZ jb (by rfl) (by rfl) (by simp[Value.oneCell']) (by rw[World.size_alloc];rfl) HO2.out jb jb (by rw[World.size_alloc];omega) ?_;intro v9 w9 ho9 hb9;have HO9:=jx ho9;have HB9:=jx hb9;clear ho9 hb9)
    go_roundw
    case rel=>
     refine⟨k+1,by go_num,jb,?_,(HBR.out.alloc jb _).trans HB9.out,jx λh=>by rw[HM1.out,HX.out]at h;simp at h⟩;rw[HM1.out,HX.out,aD];exact HO9.out.congr λj hj=>anu _ _ j hj
    case measure=>simp[intOf];omega
  .obtain rfl:k=N:=jb;have hnl:decide ((k:Int)<(k:Int))=false:=by simp
   have hlk:=HL.out k;have HST:=jx (aiE wr w1.heap.size u3 (MK k) hown jb jb);go_wp2_with fail;refine HST.out.mono ?_;rintro e w2 ⟨rfl,l2,hl2,hm2,ho2,hb2,hs2⟩;have HCP:=jx (X8 w2 w1.heap.size u3 l2 ho2 jb);have HB2:=jx (HBR.out.trans hb2);have HM2:=jx hm2;have HS2:=jx hs2;clear ho2 hb2 HST hm2 hown hbel hs2;go_wp2_with fail;refine HCP.out.mono ?_;rintro e w3 ⟨v3,l3,rfl,hl3,hm3,ho3,hb3,hc3,hn3⟩;have HO3:=jx ho3;have HM3:=jx hm3;have HB3:=jx (HB2.out.trans hb3);have HC3:=jx hc3;have HN3:=jx hn3;clear ho3 hm3 hb3 hc3 hn3;go_wp2;go_ret;exact⟨_,l3,rfl,jb,λc=>by rw[HM3.out,HM2.out,HM.out],HO3.out.mono jb,chain HB.out HB3.out jp,by rw[HC3.out,HS2.out,HML.out],λh=>HN3.out (HNV.out (List.eq_nil_iff_forall_not_mem.mpr λx hx=>by have:=(HM3.out x).mpr ((HM2.out x).mpr hx);rw[h]at this;cases this))⟩
end Go.Proofs.Ins
namespace Go.Proofs.Xe
open Go.RowKit Go.Proofs.Ins
theorem Ya:∀l:List Int,ones l.length (λi=>B.int .i64 (ix l i))=l.map (B.int .i64)
 |[]=>rfl
 |x::l=>by show [B.int .i64 x]++bC l.length (λi=>[B.int .i64 (ix l i)])=_;have:=Ya l;unfold ones at this;rw[this];rfl
theorem Yb(φ:Ph):∀l:List Int,lS φ (l.map (B.int .i64)) (l.map (Value.int .i64))
 |[]=>trivial
 |_::l=>⟨rfl,Yb φ l⟩
def aiG(l:List Int)(σ:St):Option (V×St):=if l.length=0 then some (.c .aO,σ)else some (.c (.sl σ.aj 0 l.length .opn),⟨hset σ.h σ.aj ⟨ones l.length (λi=>.int .i64 (ix l i)),some (1,3)⟩,σ.aj+1⟩)
def acW{φ:Ph}:∀{n:Nat}{G:Nat->List B}{F:Nat->List Value},(∀i,i<n->lS φ (G i) (F i))->lS φ (bC n G) ((List.range n).flatMap F)
 |0,_,_,_=>trivial
 |n+1,G,F,h=>by rw[List.range_succ_eq_map,gj,it];exact lS.append (h 0 jb) (acW λi hi=>h (i+1) jb)
def aiH(l:List yg)(σ:St):Option (V×St):=if l.length=0 then some (.c .aO,σ)else some (.c (.sl σ.aj 0 l.length .opn),⟨hset σ.h σ.aj ⟨bC l.length λi=>zZ (ix l i),some (5,126)⟩,σ.aj+1⟩)
noncomputable section
open Classical in
def aiI(args:List V)(σ:St):Option (V×St):=match args with
 |[.agg [v]]=>if h:∃a,dP (λ_=>True) σ.h v a/\a.length<=1000000/\a.flatten.length<=1000000 then aiG (xg (Classical.choose h)) σ else none
 |_=>none
open Classical in
def aiJ(args:List V)(σ:St):Option (V×St):=match args with
 |[.c v]=>if h:∃a,dP (λ_=>True) σ.h v a/\a.length<=1000000/\a.flatten.length<=1000000 then aiH (Classical.choose h).flatten σ else none
 |_=>none
def aiK(f:Nat)(args:List V)(σ:St):Option (V×St):=
 if f=181 then aiJ args σ
 else if f=140 then aiI args σ
 else none
end
def anz{p:Nat->Prop}{σ:St}{v:B}{a:fC}(ha:dP p σ.h v a)(h1:a.length<=1000000)(h2:a.flatten.length<=1000000):aiI [.agg [v]] σ=aiG (xg a) σ:=by
 have h:∃a,dP (λ_=>True) σ.h v a/\a.length<=1000000/\a.flatten.length<=1000000:=⟨a,ha.keep (λ_ _=>rfl) λ_ _=>trivial,h1,h2⟩
 unfold aiI;dsimp only;rw[dif_pos h,(Classical.choose_spec h).1.uniq ha]
def aiL{args:List V}{σ σ':St}{v:V}(h:aiI args σ=some (v,σ')):∃t a,args=[.agg [t]]/\aiG (xg a) σ=some (v,σ')/\dP (λ_=>True) σ.h t a/\a.length<=1000000/\a.flatten.length<=1000000:=by
 unfold aiI at h;split at h
 .next t=>
  split at h
  .grind
  .cases h
 .cases h
def anA{p:Nat->Prop}{σ:St}{v:B}{a:fC}(ha:dP p σ.h v a)(h1:a.length<=1000000)(h2:a.flatten.length<=1000000):aiJ [.c v] σ=aiH a.flatten σ:=by
 have h:∃a,dP (λ_=>True) σ.h v a/\a.length<=1000000/\a.flatten.length<=1000000:=⟨a,ha.keep (λ_ _=>rfl) λ_ _=>trivial,h1,h2⟩
 unfold aiJ;dsimp only;rw[dif_pos h,(Classical.choose_spec h).1.uniq ha]
def aiM{args:List V}{σ σ':St}{v:V}(h:aiJ args σ=some (v,σ')):∃t a,args=[.c t]/\aiH a.flatten σ=some (v,σ')/\dP (λ_=>True) σ.h t a/\a.length<=1000000/\a.flatten.length<=1000000:=by
 unfold aiJ at h;split at h
 .next t=>
  split at h
  .grind
  .cases h
 .cases h
def acX{φ:Ph}{bP:Array Value}{x:V}(h:Io φ [x] bP.toList):∃u,bP= #[u]/\RV φ x u:=by
 obtain⟨l⟩:=bP;match l,h with
 |[u],h=>exact⟨u,rfl,h.1⟩
def anB(f:Nat)(args:List V)(σ:St)(v:V)(σ':St)(h:aiK f args σ=some (v,σ')):okF Tryz.prog f/\∀(N:Nat) (w0:World) (φ:Ph) (w:World) (bP:Array Value),Rel N w0 φ σ w->Io φ args bP.toList->
  Calls Tryz.prog f bP w λe w'=>∃cv,e=.returned cv/\∃φ',Ext σ.aj φ φ'/\Rel N w0 φ' σ' w'/\RV φ' v cv/\σ.aj<=σ'.aj:=by
 unfold aiK at h
 split at h
 .next e=>
  subst e
  obtain⟨t,a,rfl,h3,h1,la,lf⟩:=aiM h
  refine⟨zT (by kernel_rfl),λN w0 φ w bP hR ha=>?_⟩
  obtain⟨u,rfl,hu⟩:=acX ha
  refine(IK (InW w) u a w (h1.un hR hu) jb lf).mono ?_
  rintro e w' ⟨v',rfl,ho,hb,hz⟩
  generalize a.flatten=l at*
  unfold aiH at h3
  split at h3
  .next h0=>
   cases h3
   exact⟨_,rfl,φ,Ext.refl _ _,hR.below hb,hz h0,jp⟩
  .next h0=>
   cases h3
   obtain⟨⟨-,h4⟩,-⟩:=ho
   rcases h4 with⟨-,h4⟩|⟨c,cap,cur,rfl,hc,hg,hnc,hm,hs,hx⟩
   .omega
   .have hN:σ.new ⟨bC l.length λi=>zZ (ix l i),some (5,126)⟩=some (σ.aj,⟨hset σ.h σ.aj ⟨bC l.length λi=>zZ (ix l i),some (5,126)⟩,σ.aj+1⟩):=lT _ _
    have hol:(bC l.length λi=>zZ (ix l i)).length=l.length*5:=qw λ_=>rfl
    have hcl:c<w'.heap.size:=(eL.mp hg).1
    refine⟨_,rfl,_,xQ φ σ.aj (c,cap),(hR.below hb).new hN (w':=w') ⟨rfl,rfl,rfl,jp,λ_ _ _=>rfl⟩ (ap hR.size hc) hcl (λi p hi _ e=>?_) (.inl ⟨EI jj,cur,126,hg,?_,?_,λe t he=>?_⟩),.inl ⟨(c,cap),cap,gY _ _ _,rfl,hnc,?_,rfl,rfl⟩,by simp⟩
    .have:=hR.lo i p hi
     omega
    .show lS φ (bC l.length λi=>zZ (ix l i)) (cur.toList.take (bC l.length λi=>zZ (ix l i)).length)
     rw[hol,hx]
     exact acW λi _=>⟨rfl,rfl,rfl,rfl,rfl,trivial⟩
    .grind
    .grind
    grind[maxLen]
 .split at h
  .next e=>
   subst e
   obtain⟨t,a,rfl,h3,h1,la,lf⟩:=aiL h
   refine⟨zT (by kernel_rfl),λN w0 φ w bP hR ha=>?_⟩
   obtain⟨u,rfl,hu⟩:=acX ha
   obtain⟨r,rfl,hr⟩:=hu
   obtain⟨rl⟩:=r
   match rl,hr with
   |[tv],⟨ht,_⟩=>
    refine(X9 (InW w) tv a w (h1.un hR ht) jb lf).mono ?_
    rintro e w' ⟨v',l,rfl,-,-,ho,hb,hl,hn⟩
    rw[<-hl]at h3
    unfold aiG at h3
    split at h3
    .next h0=>
     cases h3
     exact⟨_,rfl,φ,Ext.refl _ _,hR.below hb,hn (fe h0),jp⟩
    .next h0=>
     cases h3
     obtain⟨⟨-,h4⟩,-⟩:=ho
     rcases h4 with⟨-,h4⟩|⟨c,cap,cur,rfl,hc,hg,hnc,hm,hs,hx⟩
     .omega
     .have hN:σ.new ⟨ones l.length (λi=>.int .i64 (ix l i)),some (1,3)⟩=some (σ.aj,⟨hset σ.h σ.aj ⟨ones l.length (λi=>.int .i64 (ix l i)),some (1,3)⟩,σ.aj+1⟩):=lT _ _
      rw[acU,ft]at hx
      have hol:(ones l.length λi=>B.int .i64 (ix l i)).length=l.length:=by grind[OM]
      have hcl:c<w'.heap.size:=(eL.mp hg).1
      refine⟨_,rfl,_,xQ φ σ.aj (c,cap),(hR.below hb).new hN (w':=w') ⟨rfl,rfl,rfl,jp,λ_ _ _=>rfl⟩ (ap hR.size hc) hcl (λi p hi _ e=>?_) (.inl ⟨EI jj,cur,3,hg,?_,?_,λe t he=>?_⟩),.inl ⟨(c,cap),cap,gY _ _ _,rfl,hnc,?_,rfl,rfl⟩,by simp⟩
      .have:=hR.lo i p hi
       omega
      .grind[Ya,Yb]
      .grind
      .grind
      grind[maxLen]
  .cases h
def anC(f:Nat)(args:List V)(σ:St):Option (V×St):=aiK f args σ
def anD(f:Nat)(args:List V)(σ:St)(v:V)(σ':St)(h:anC f args σ=some (v,σ')):okF Tryz.prog f/\∀(N:Nat) (w0:World) (φ:Ph) (w:World) (bP:Array Value),Rel N w0 φ σ w->Io φ args bP.toList->
  Calls Tryz.prog f bP w λe w'=>∃cv,e=.returned cv/\∃φ',Ext σ.aj φ φ'/\Rel N w0 φ' σ' w'/\RV φ' v cv/\σ.aj<=σ'.aj:=anB f args σ v σ' h
abbrev anE:List Nat:=[114
 ,61
 ,111
 ,62
 ,119
 ,112
 ,120
 ,121
 ,66
 ,23
 ,21
 ,63
 ,113
 ,59
 ,64
 ,196
 ,65
 ,19
 ,60
 ,20
 ,68
 ,58
 ,17
 ,24
 ,25
 ,157
 ,18
 ,184
 ,91
 ]
def afq:Nat->List V->St->Option (V×St):=(Eb anE).Xh
def acY{f:Nat}(h:anE.contains f=false)(args:List V)(σ:St):afq f args σ=none:=by unfold afq Eb;dsimp only;rw[h];rfl
class awt (E:Env):Prop where
 o:∀f args σ r,afq f args σ=some r->E.Xh f args σ=some r
instance {E:Env}{f:Nat} [h:awt E] [m:Mm f anE]:jQ E f:=⟨λargs v σ hv=>h.o f args σ _ (by unfold afq;exact jQ.o (E:=Eb anE) args v σ hv)⟩
def anF(f:Nat):Prop:=okF Tryz.prog f/\∀w,Calls Tryz.prog f #[] w λe w'=>e=.returned (.bool true)/\Below w.heap.size w w'
def awN:List Nat:=[
 1000000]
noncomputable section
open Classical in
def awu(f:Nat)(args:List V)(σ:St):Option (V×St):=bif awN.contains f then(match args with|[]=>if anF f then some (.c (.bool true),σ)else none|_=>none)else none
def Yc(f:Nat)(args:List V)(σ:St):Option (V×St):=match afq f args σ with
 |some r=>some r
 |none=>match anC f args σ with
  |some r=>some r
  |none=>awu f args σ
end
class aa0 (E:Env):Prop where
 a:∀f args σ r,Yc f args σ=some r->E.Xh f args σ=some r
instance {E:Env} [h:aa0 E]:awt E:=⟨λf args σ r hv=>h.a f args σ r (by unfold Yc;rw[hv])⟩
def Tf{E:Env}[hE:aa0 E]{f:Nat}{args:List V}{v:V}{σ σ2:St}{K:V->St->Prop}(h:Yc f args σ=some (v,σ2)):aC E f args σ K=K v σ2:=by
 refine propext ⟨λ⟨n,v',σ',h1,h2⟩=>?_,λhk=>XH (hE.a f args σ _ h) hk⟩;have h3:jc E 1 f args σ=some (v,σ2):=by rw[jc];unfold Il;rw[hE.a f args σ _ h]
 have a:=oC (show n<=n+1 by omega) f args σ _ h1;have b:=oC (show 1<=n+1 by omega) f args σ _ h3;rw[a]at b;cases b;exact h2
section
variable {E:Env} [aa0 E] {σ:St} {K:V→St→Prop}
end
end Go.Proofs.Xe
namespace Go.Proofs.Xe
open Go.Proofs
set_option maxRecDepth 1000000
set_option maxHeartbeats 8000000
def EN:Env:=⟨tF Tryz.prog,Yc⟩
instance aAR:aa0 EN:=⟨λ_ _ _ _ h=>h⟩
structure iT(k:Nat) where
 a:AF
 g:tG Tryz.prog k=some a:=by conv=>(lhs;reduce;simp only[ap1])
 i:Xy Tryz.prog k a=true:=by kernel_rfl
 o:∀args σ,EN.Xh k args σ=none:=by exact λ_ _=>rfl
def iT.h{k:Nat}(b:iT k):EN.fns k=some b.a:=ap0 b.g b.i
def nR:iT 7:=.mk _
def Gx:iT 10:=.mk _
def uG:iT 12:=.mk _
def Aa:iT 14:=.mk _
def DR:iT 26:=.mk _
def qG:iT 27:=.mk _
def pI:iT 28:=.mk _
def DT:iT 29:=.mk _
def oG:iT 30:=.mk _
def Gy:iT 39:=.mk _
def OW:iT 40:=.mk _
def rY:iT 42:=.mk _
def uH:iT 43:=.mk _
def kK:iT 44:=.mk _
def lV:iT 45:=.mk _
def fJ:iT 47:=.mk _
def iQ:iT 49:=.mk _
def jR:iT 55:=.mk _
def mQ:iT 56:=.mk _
def JL:iT 69:=.mk _
def pJ:iT 70:=.mk _
def kL:iT 71:=.mk _
def Ac:iT 72:=.mk _
def oH:iT 74:=.mk _
def jS:iT 75:=.mk _
def pK:iT 76:=.mk _
def JM:iT 80:=.mk _
def Gz:iT 81:=.mk _
def ji:iT 82:=.mk _
def rZ:iT 84:=.mk _
def nS:iT 85:=.mk _
def wu:iT 86:=.mk _
def iJ:iT 87:=.mk _
def jv:iT 88:=.mk _
def kM:iT 89:=.mk _
def kN:iT 90:=.mk _
def pO:iT 92:=.mk _
def wz:iT 93:=.mk _
def uI:iT 94:=.mk _
def kS:iT 95:=.mk _
def su:iT 96:=.mk _
def mV:iT 97:=.mk _
def mW:iT 98:=.mk _
def wB:iT 99:=.mk _
def jT:iT 100:=.mk _
def uJ:iT 101:=.mk _
def gK:iT 102:=.mk _
def sD:iT 105:=.mk _
def wC:iT 106:=.mk _
def sF:iT 107:=.mk _
def kT:iT 108:=.mk _
def yj:iT 109:=.mk _
def jU:iT 110:=.mk _
def mX:iT 126:=.mk _
def lW:iT 127:=.mk _
def qH:iT 128:=.mk _
def jw:iT 139:=.mk _
def qI:iT 141:=.mk _
def oI:iT 142:=.mk _
def wE:iT 143:=.mk _
def lX:iT 144:=.mk _
def mY:iT 145:=.mk _
def mZ:iT 146:=.mk _
def gZ:iT 147:=.mk _
def jV:iT 148:=.mk _
def pR:iT 149:=.mk _
def uM:iT 150:=.mk _
def wF:iT 151:=.mk _
def yt:iT 152:=.mk _
def sH:iT 153:=.mk _
def eY:iT 154:=.mk _
def yu:iT 155:=.mk _
def jk:iT 156:=.mk _
def lY:iT 158:=.mk _
def kU:iT 159:=.mk _
def kX:iT 160:=.mk _
def kY:iT 169:=.mk _
def kZ:iT 170:=.mk _
def pU:iT 171:=.mk _
def iK:iT 172:=.mk _
def dZ:iT 179:=.mk _
def jf:iT 180:=.mk _
def lu:iT 185:=.mk _
def fP:iT 186:=.mk _
def lC:iT 187:=.mk _
def wG:iT 188:=.mk _
def jy:iT 189:=.mk _
def wH:iT 190:=.mk _
def yw:iT 191:=.mk _
def sJ:iT 192:=.mk _
def dN:iT 193:=.mk _
def uN:iT 194:=.mk _
def qJ:iT 195:=.mk _
def lZ:iT 197:=.mk _
def iL:iT 198:=.mk _
def fU:iT 212:=.mk _
def yx:iT 216:=.mk _
def wI:iT 217:=.mk _
def l7:iT 218:=.mk _
def oJ:iT 219:=.mk _
def ng:iT 220:=.mk _
def ni:iT 221:=.mk _
def nT:iT 222:=.mk _
def nC:iT 223:=.mk _
def yA:iT 239:=.mk _
def gU:iT 240:=.mk _
def yB:iT 241:=.mk _
end Go.Proofs.Xe
end
