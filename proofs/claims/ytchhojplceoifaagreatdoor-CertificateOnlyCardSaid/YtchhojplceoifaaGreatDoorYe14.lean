import Derived.Test.YtchhojplceoifaaGreatDoorYe13
import Derived.Lib.OwnBridge
set_option linter.all false
set_option maxHeartbeats 8000000
noncomputable section
namespace Go.Proofs.Ins
open Go.RowKit
def Dp{F:Nat->List Value}{sz:Nat}:∀(n:Nat),(∀i,i<n->(F i).length=sz)->((List.range n).flatMap F).length=n*sz
 |0,_=>by simp
 |n+1,h=>by rw[fR,cU,aD,Dp n (λi hi=>h i jb)];simp[h n jb,cB]
def cJ(l:List Int)(j:Nat):List Value:=[.int .i64 (l.getD j 0)]
def ab1(l:List Int):(List.range l.length).flatMap (cJ l)=l.map (Value.int .i64):=by
 apply List.ext_getElem?;intro j;by_cases h:j<l.length
 .have:=yF (sz:=1) (F:=cJ l) l.length (λi _=>rfl) j 0 h jb;grind[cJ]
 .rw[List.getElem?_eq_none,List.getElem?_eq_none]
  .simpa using h
  .rw[Dp (sz:=1) l.length (λi _=>rfl)];omega
def amr(l:List Int)(x:Int)(j:Nat)(hj:j<l.length+1):(if j<l.length then cJ l j else [.int .i64 x])=cJ (l++[x]) j:=by grind[cJ]
def Ib{w:World}{base:Nat}{T:TypeId}{v:Value}{l:List Int}:lM w base T 1 v l.length (cJ l)↔w.ownsRow base T 1 v l.length (l.map (Value.int .i64)):=by unfold lM;rw[ab1];exact⟨λh=>h.1,λh=>⟨h,λ_ _=>rfl⟩⟩
def below_grow{B:Nat}{w0 w:World}{os:Array Obj}(h:Below B w0 w)(hB:B<=w.heap.size):Below B w0 (Sort.grow w os):=
 ⟨h.os,h.tape,h.output,by have:=h.size;grind[Sort.grow],λk hk=>by rw[<-h.block k hk];grind[Sort.heap_grow_old]⟩
def ownsRow_grow{w:World}{base:Nat}{T:TypeId}{v:Value}{n:Nat}{xs:List Value}{os:Array Obj}(h:w.ownsRow base T 1 v n xs):(Sort.grow w os).ownsRow base T 1 v n xs:=by
 obtain⟨h1,h2⟩:=h;refine⟨h1,?_⟩;rcases h2 with h2|⟨g,cap,cur,hv,hb,hg,r⟩
 .grind
 .exact .inr ⟨g,cap,cur,hv,hb,by grind[Sort.heap_grow_old],r⟩
def Xk{w:World}{base:Nat}{T:TypeId}{sz n:Nat}{F:Nat->List Value}(h:lM w base T sz (.slice none 0 0) n F):n=0:=by obtain⟨⟨-,h1⟩,-⟩:=h;grind
def ahH(w:World)(base:Nat)(v:Value)(l:List Int)(h:lM w base 3 1 v l.length (cJ l))(hb:base<=w.heap.size)(hl:l.length<4611686018427387904):
  Calls Tryz.prog 182 #[v] w λe w'=>e=.returned (.tuple #[])/\∃l':List Int,l'.length=l.length/\(∀x,x∈l'↔x∈l)/\lM w' base 3 1 v l'.length (cJ l')/\Below base w w'/\l'=l.mergeSort λx y=>decide (x<=y):=by
 by_cases hv:v=.slice none 0 0
 .subst hv
  refine(Tryz.slices_Sort_int_none none 0 w).mono λe w' ⟨he,hw⟩=>⟨he,l,rfl,λ_=>Iff.rfl,by grind,by grind[Below.refl],by rw[fo (Xk h)];simp⟩
 .have hr:=Ib.mp h
  obtain⟨g,cap,rfl,h1,h2,h3,h4,h5,h6⟩:=Lib.holds_of_ownsRow hr hv
  refine(Tryz.slices_Sort_int g 0 cap l w h6 h2 hl).mono ?_
  rintro e w' ⟨he,n,os,rfl⟩
  refine⟨he,l.mergeSort λx y=>decide (x<=y),by simp,λx=>List.mem_mergeSort,Ib.mpr ?_,below_grow (Lib.below_putRow (Below.refl base w) h1) (by simp_all),rfl⟩
  refine ownsRow_grow ?_
  have:=Lib.ownsRow_putRow (q:=n) (k:=l.length) (ys:=l.mergeSort λx y=>decide (x<=y)) hr kc jp
  grind[List.length_mergeSort]
def Xl(w:World)(base:Nat)(v:Value)(l:List Int)(h:lM w base 3 1 v l.length (cJ l))(hl:l.length<=9223372036854775807):
  Calls Tryz.prog 183 #[v] w λe w'=>∃v' l',e=.returned v'/\l'.length<=l.length/\(∀x,x∈l'↔x∈l)/\lM w' base 3 1 v' l'.length (cJ l')/\Below base w w'/\l'=Lib.compact l/\(v=.slice none 0 0->v'=.slice none 0 0):=by
 by_cases hv:v=.slice none 0 0
 .subst hv
  refine(Tryz.slices_Compact_int_empty none 0 w).mono λe w' ⟨he,hw⟩=>⟨_,l,he,jp,λ_=>Iff.rfl,by grind,by grind[Below.refl],by rw[fo (Xk h)];rfl,λh=>h⟩
 .have hr:=Ib.mp h
  obtain⟨g,cap,rfl,h1,h2,h3,h4,h5,h6⟩:=Lib.holds_of_ownsRow hr hv
  refine(Tryz.slices_Compact_int g 0 cap l w h6 hl h3).mono ?_
  rintro e w' ⟨he,q,rfl⟩
  have hle:=Lib.compact_length_le l
  refine⟨_,Lib.compact l,he,hle,λx=>mem_compact,Ib.mpr ?_,Lib.below_putRow (Below.refl base w) h1,rfl,λh=>absurd h hv⟩
  grind[Lib.ownsRow_putRow,List.take_left]
def mks(l:List AZ)(k:Nat):List Int:=((l.take k).map λx=>x.k).filter λx=>x !=-1
def ahI(l:List AZ):mks l 0=[]:=by rfl
def ams{l:List AZ}{k:Nat}(h:k<l.length)(h2:(ix l k).k≠-1):mks l (k+1)=mks l k++[(ix l k).k]:=by grind[mks,bW]
def arN{l:List AZ}{k:Nat}(h:k<l.length)(h2:(ix l k).k=-1):mks l (k+1)=mks l k:=by grind[mks,bW]
def amu(l:List AZ)(k:Nat):(mks l k).length<=k:=by grind[Go.Proofs.Ins.mks]
def amv{a:iI}{c:Int}:c∈mks a.flatten a.flatten.length↔c≠-1/\Qa a c=true:=by grind[mks,Qa,memT]
def avk(w:World)(T:TypeId)(a:iI)(e:Ending)(w':World):Prop:=
 ∃v l,e=.returned v/\l.length<=a.flatten.length/\(∀c,c∈l↔c≠-1/\Qa a c=true)/\lM w' w.heap.size T 1 v l.length (cJ l)/\Below w.heap.size w w'/\l=wK a/\(l=[]->v=.slice none 0 0)
set_option maxRecDepth 100000 in
def Xm(p:Nat->Prop)(v:Value)(a:iI)(w:World)(hA:xI w p v a)(la:a.length<=140737488351232)(lf:a.flatten.length<=1000000):
  Calls Tryz.prog 140 #[.agg #[v]] w (avk w 3 a):=by
 have HC:=jx (λw' (h:xI w' p v a)=>Xj p v a w' h la lf)
 have HA:=jx hA
 have HM:=jx (λc=>amv (a:=a) (c:=c))
 have HY:=jx (λk h h2=>ams (l:=a.flatten) (k:=k) h h2)
 have HN:=jx (λk h h2=>arN (l:=a.flatten) (k:=k) h h2)
 have HL:=jx (amu a.flatten)
 have H0:=jx (ahI a.flatten)
 have HML:=jx (show wK a=Lib.compact ((mks a.flatten a.flatten.length).mergeSort λx y=>decide (x<=y)) by unfold wK mks;rw[cC])
 unfold avk
 clear hA
 generalize hmm:mks a.flatten=MK at*
 generalize hfl:a.flatten=fl at*
 clear hmm hfl
 generalize hN:fl.length=N at*
 go_enter Tryz.func140,Tryz.ntmps140
 go_wp2_with fail
 refine(HC.out _ (HA.out.on ((Below.refl _ _).alloc jp _))).mono ?_
 rintro e w1 ⟨v1,rfl,ho1,hb1⟩
 obtain⟨-,HB⟩:=apS hb1
 have HB:=jx HB
 have hz1:=HB.out.size
 have hsl:=ho1.sl
 obtain⟨a1,cap1,rfl,-,-⟩:=hsl.form
 have HSL:=jx hsl
 clear ho1 hb1 hsl HC HA
 go_wp2_with fail
 go_loopw [3,10] (λv i wr=>∃k:Nat,i=.int .i64 k/\k<=N/\lM wr w1.heap.size 3 1 v (MK k).length (cJ (MK k))/\Below w1.heap.size w1 wr/\Hid (MK k=[]->v=.slice none 0 0)) (λ_ i _=>N-(intOf i).toNat)
 case atStart=>exact⟨0,rfl,jb,by rw[H0.out];exact lM.nil _ _ _ _ _,Below.refl _ _,jx λ_=>rfl⟩
 case round=>
  obtain⟨k,rfl,hk,hown,hbel,HNV⟩:=hrel;have HO:=jx hown;have HBR:=jx hbel;have hsz:=hbel.size;by_cases hlt:k<N
  .obtain⟨b,off,rfl,-,-,-⟩:=HSL.out.get jb;have e0:=HSL.out.cellAt rfl hbel (i:=k) (j:=0) hlt jb;have e1:wr.cell? ⟨b,off+k*5+1,none⟩=some (Value.bool (ix fl k).b):=HSL.out.cellAt rfl hbel (i:=k) (j:=1) hlt jb;have e2:wr.cell? ⟨b,off+k*5+2,none⟩=some (Value.bool (ix fl k).a.n):=HSL.out.cellAt rfl hbel (i:=k) (j:=2) hlt jb;have e3:wr.cell? ⟨b,off+k*5+3,none⟩=some (Value.string (ix fl k).a.s):=HSL.out.cellAt rfl hbel (i:=k) (j:=3) hlt jb;have e4:wr.cell? ⟨b,off+k*5+4,none⟩=some (Value.string (ix fl k).a.d):=HSL.out.cellAt rfl hbel (i:=k) (j:=4) hlt jb;rw[cF]at e0;have e0':wr.cell? ⟨b,off+k*5,none⟩=some (Value.int .i64 (ix fl k).k):=e0;have HYK:=jx (HY.out k jb);have HNK:=jx (HN.out k jb);have hlk:=HL.out k;have i1:(0:Int)<=(k:Int):=jb;have i2:(k:Int)<(N:Int):=jb;clear e0 hown hbel HY HN HL HM;generalize avl:MK (k+1)=M1 at*;have HM1:=jx avl;generalize axH:MK k=M0 at*;clear avl axH;generalize (ix fl k).k=x at*;generalize (ix fl k).b=pb at*;generalize (ix fl k).a.n=an at*;generalize (ix fl k).a.s=as' at*;generalize (ix fl k).a.d=ad at*;by_cases hx:x=-1
   .have h1:(x !=-1)=false:=by simp[hx]
    have HX:=jx (HNK.out hx);clear HYK HNK;go_wp2;go_roundw
    case rel=>exact⟨k+1,by go_num,jb,by rw[HM1.out,HX.out];exact HO.out.below ((Below.refl _ _).alloc jp _) jp,HBR.out.alloc jb _,jx λh=>HNV.out (by rwa[HM1.out,HX.out]at h)⟩
    case measure=>simp[intOf];omega
   .have h1:(x !=-1)=true:=by simp[hx]
    have HX:=jx (HYK.out hx);have HO2:=jx (HO.out.below ((Below.refl wr.heap.size wr).alloc jp (.cells #[.int .i64 x,.bool pb,.bool an,.string as',.string ad] 126)) jp);have hz2:(wr.alloc (.cells #[.int .i64 x,.bool pb,.bool an,.string as',.string ad] 126)).heap.size=wr.heap.size+1:=by simp
    clear HYK HNK;go_wp2_with (refine MX _ _ 31 3 1 8 w1.heap.size _ _ _ [.int .i64 x] (by rfl) (by rfl) Tryz.underlying31 akW jb (by rfl) (by rfl) (by simp[Value.oneCell']) (by rw[World.size_alloc];rfl) HO2.out jb jb (by rw[World.size_alloc];omega) ?_;intro v9 w9 ho9 hb9;have HO9:=jx ho9;have HB9:=jx hb9;clear ho9 hb9)
    go_roundw
    case rel=>
     refine⟨k+1,by go_num,jb,?_,(HBR.out.alloc jb _).trans HB9.out,jx λh=>by rw[HM1.out,HX.out]at h;simp at h⟩;rw[HM1.out,HX.out,aD];exact HO9.out.congr λj hj=>amr _ _ j hj
    case measure=>simp[intOf];omega
  .obtain rfl:k=N:=jb;have hnl:decide ((k:Int)<(k:Int))=false:=by simp
   have hlk:=HL.out k;have HST:=jx (ahH wr w1.heap.size u3 (MK k) hown jb jb);go_wp2_with fail;refine HST.out.mono ?_;rintro e w2 ⟨rfl,l2,hl2,hm2,ho2,hb2,hs2⟩;have HCP:=jx (Xl w2 w1.heap.size u3 l2 ho2 jb);have HB2:=jx (HBR.out.trans hb2);have HM2:=jx hm2;have HS2:=jx hs2;clear ho2 hb2 HST hm2 hown hbel hs2;go_wp2_with fail;refine HCP.out.mono ?_;rintro e w3 ⟨v3,l3,rfl,hl3,hm3,ho3,hb3,hc3,hn3⟩;have HO3:=jx ho3;have HM3:=jx hm3;have HB3:=jx (HB2.out.trans hb3);have HC3:=jx hc3;have HN3:=jx hn3;clear ho3 hm3 hb3 hc3 hn3;go_wp2;go_ret;exact⟨_,l3,rfl,jb,λc=>by rw[HM3.out,HM2.out,HM.out],HO3.out.mono jb,chain HB.out HB3.out jp,by rw[HC3.out,HS2.out,HML.out],λh=>HN3.out (HNV.out (List.eq_nil_iff_forall_not_mem.mpr λx hx=>by have:=(HM3.out x).mpr ((HM2.out x).mpr hx);rw[h]at this;cases this))⟩
end Go.Proofs.Ins
namespace Go.Proofs.Xe
open Go.RowKit Go.Proofs.Ins
theorem Xn:∀l:List Int,ones l.length (λi=>B.int .i64 (ix l i))=l.map (B.int .i64)
 |[]=>rfl
 |x::l=>by show [B.int .i64 x]++bV l.length (λi=>[B.int .i64 (ix l i)])=_;have:=Xn l;unfold ones at this;rw[this];rfl
theorem Xo(φ:Ph):∀l:List Int,kK φ (l.map (B.int .i64)) (l.map (Value.int .i64))
 |[]=>trivial
 |_::l=>⟨rfl,Xo φ l⟩
def ahJ(l:List Int)(σ:St):Option (V×St):=if l.length=0 then some (.c .aX,σ)else some (.c (.sl σ.aj 0 l.length .opn),⟨hset σ.h σ.aj ⟨ones l.length (λi=>.int .i64 (ix l i)),some (1,3)⟩,σ.aj+1⟩)
def ab2{φ:Ph}:∀{n:Nat}{G:Nat->List B}{F:Nat->List Value},(∀i,i<n->kK φ (G i) (F i))->kK φ (bV n G) ((List.range n).flatMap F)
 |0,_,_,_=>trivial
 |n+1,G,F,h=>by rw[List.range_succ_eq_map,im,iA];exact kK.append (h 0 jb) (ab2 λi hi=>h (i+1) jb)
def ahK(l:List AZ)(σ:St):Option (V×St):=if l.length=0 then some (.c .aX,σ)else some (.c (.sl σ.aj 0 l.length .opn),⟨hset σ.h σ.aj ⟨bV l.length λi=>BU (ix l i),some (5,126)⟩,σ.aj+1⟩)
noncomputable section
open Classical in
def ahL(args:List V)(σ:St):Option (V×St):=match args with
 |[.agg [v]]=>if h:∃a,fC (λ_=>True) σ.h v a/\a.length<=1000000/\a.flatten.length<=1000000 then ahJ (wK (Classical.choose h)) σ else none
 |_=>none
open Classical in
def ahM(args:List V)(σ:St):Option (V×St):=match args with
 |[.c v]=>if h:∃a,fC (λ_=>True) σ.h v a/\a.length<=1000000/\a.flatten.length<=1000000 then ahK (Classical.choose h).flatten σ else none
 |_=>none
def ahN(f:Nat)(args:List V)(σ:St):Option (V×St):=
 if f=181 then ahM args σ
 else if f=140 then ahL args σ
 else none
end
def amw{p:Nat->Prop}{σ:St}{v:B}{a:iI}(ha:fC p σ.h v a)(h1:a.length<=1000000)(h2:a.flatten.length<=1000000):ahL [.agg [v]] σ=ahJ (wK a) σ:=by
 have h:∃a,fC (λ_=>True) σ.h v a/\a.length<=1000000/\a.flatten.length<=1000000:=⟨a,ha.keep (λ_ _=>rfl) λ_ _=>trivial,h1,h2⟩
 unfold ahL;dsimp only;rw[dif_pos h,(Classical.choose_spec h).1.uniq ha]
def ahO{args:List V}{σ σ':St}{v:V}(h:ahL args σ=some (v,σ')):∃t a,args=[.agg [t]]/\ahJ (wK a) σ=some (v,σ')/\fC (λ_=>True) σ.h t a/\a.length<=1000000/\a.flatten.length<=1000000:=by
 unfold ahL at h;split at h
 .next t=>
  split at h
  .grind
  .cases h
 .cases h
def amx{p:Nat->Prop}{σ:St}{v:B}{a:iI}(ha:fC p σ.h v a)(h1:a.length<=1000000)(h2:a.flatten.length<=1000000):ahM [.c v] σ=ahK a.flatten σ:=by
 have h:∃a,fC (λ_=>True) σ.h v a/\a.length<=1000000/\a.flatten.length<=1000000:=⟨a,ha.keep (λ_ _=>rfl) λ_ _=>trivial,h1,h2⟩
 unfold ahM;dsimp only;rw[dif_pos h,(Classical.choose_spec h).1.uniq ha]
def ahP{args:List V}{σ σ':St}{v:V}(h:ahM args σ=some (v,σ')):∃t a,args=[.c t]/\ahK a.flatten σ=some (v,σ')/\fC (λ_=>True) σ.h t a/\a.length<=1000000/\a.flatten.length<=1000000:=by
 unfold ahM at h;split at h
 .next t=>
  split at h
  .grind
  .cases h
 .cases h
def ab3{φ:Ph}{bU:Array Value}{x:V}(h:G8 φ [x] bU.toList):∃u,bU= #[u]/\RV φ x u:=by
 obtain⟨l⟩:=bU;match l,h with
 |[u],h=>exact⟨u,rfl,h.1⟩
def amy(f:Nat)(args:List V)(σ:St)(v:V)(σ':St)(h:ahN f args σ=some (v,σ')):okF Tryz.prog f/\∀(N:Nat) (w0:World) (φ:Ph) (w:World) (bU:Array Value),Rel N w0 φ σ w->G8 φ args bU.toList->
  Calls Tryz.prog f bU w λe w'=>∃cv,e=.returned cv/\∃φ',Ext σ.aj φ φ'/\Rel N w0 φ' σ' w'/\RV φ' v cv/\σ.aj<=σ'.aj:=by
 unfold ahN at h
 split at h
 .next e=>
  subst e
  obtain⟨t,a,rfl,h3,h1,la,lf⟩:=ahP h
  refine⟨yY (by kernel_rfl),λN w0 φ w bU hR ha=>?_⟩
  obtain⟨u,rfl,hu⟩:=ab3 ha
  refine(Ia (InW w) u a w (h1.un hR hu) jb lf).mono ?_
  rintro e w' ⟨v',rfl,ho,hb,hz⟩
  generalize a.flatten=l at*
  unfold ahK at h3
  split at h3
  .next h0=>
   cases h3
   exact⟨_,rfl,φ,Ext.refl _ _,hR.below hb,hz h0,jp⟩
  .next h0=>
   cases h3
   obtain⟨⟨-,h4⟩,-⟩:=ho
   rcases h4 with⟨-,h4⟩|⟨c,cap,cur,rfl,hc,hg,hnc,hm,hs,hx⟩
   .omega
   .have hN:σ.new ⟨bV l.length λi=>BU (ix l i),some (5,126)⟩=some (σ.aj,⟨hset σ.h σ.aj ⟨bV l.length λi=>BU (ix l i),some (5,126)⟩,σ.aj+1⟩):=kL _ _
    have hol:(bV l.length λi=>BU (ix l i)).length=l.length*5:=qU λ_=>rfl
    have hcl:c<w'.heap.size:=(eZ.mp hg).1
    refine⟨_,rfl,_,xw φ σ.aj (c,cap),(hR.below hb).new hN (w':=w') ⟨rfl,rfl,rfl,jp,λ_ _ _=>rfl⟩ (aw hR.size hc) hcl (λi p hi _ e=>?_) (.inl ⟨Eh jj,cur,126,hg,?_,?_,λe t he=>?_⟩),.inl ⟨(c,cap),cap,ig _ _ _,rfl,hnc,?_,rfl,rfl⟩,by simp⟩
    .have:=hR.lo i p hi
     omega
    .show kK φ (bV l.length λi=>BU (ix l i)) (cur.toList.take (bV l.length λi=>BU (ix l i)).length)
     rw[hol,hx]
     exact ab2 λi _=>⟨rfl,rfl,rfl,rfl,rfl,trivial⟩
    .grind
    .grind
    grind[maxLen]
 .split at h
  .next e=>
   subst e
   obtain⟨t,a,rfl,h3,h1,la,lf⟩:=ahO h
   refine⟨yY (by kernel_rfl),λN w0 φ w bU hR ha=>?_⟩
   obtain⟨u,rfl,hu⟩:=ab3 ha
   obtain⟨r,rfl,hr⟩:=hu
   obtain⟨rl⟩:=r
   match rl,hr with
   |[tv],⟨ht,_⟩=>
    refine(Xm (InW w) tv a w (h1.un hR ht) jb lf).mono ?_
    rintro e w' ⟨v',l,rfl,-,-,ho,hb,hl,hn⟩
    rw[<-hl]at h3
    unfold ahJ at h3
    split at h3
    .next h0=>
     cases h3
     exact⟨_,rfl,φ,Ext.refl _ _,hR.below hb,hn (fo h0),jp⟩
    .next h0=>
     cases h3
     obtain⟨⟨-,h4⟩,-⟩:=ho
     rcases h4 with⟨-,h4⟩|⟨c,cap,cur,rfl,hc,hg,hnc,hm,hs,hx⟩
     .omega
     .have hN:σ.new ⟨ones l.length (λi=>.int .i64 (ix l i)),some (1,3)⟩=some (σ.aj,⟨hset σ.h σ.aj ⟨ones l.length (λi=>.int .i64 (ix l i)),some (1,3)⟩,σ.aj+1⟩):=kL _ _
      rw[ab1,fX]at hx
      have hol:(ones l.length λi=>B.int .i64 (ix l i)).length=l.length:=by grind[NW]
      have hcl:c<w'.heap.size:=(eZ.mp hg).1
      refine⟨_,rfl,_,xw φ σ.aj (c,cap),(hR.below hb).new hN (w':=w') ⟨rfl,rfl,rfl,jp,λ_ _ _=>rfl⟩ (aw hR.size hc) hcl (λi p hi _ e=>?_) (.inl ⟨Eh jj,cur,3,hg,?_,?_,λe t he=>?_⟩),.inl ⟨(c,cap),cap,ig _ _ _,rfl,hnc,?_,rfl,rfl⟩,by simp⟩
      .have:=hR.lo i p hi
       omega
      .grind[Xn,Xo]
      .grind
      .grind
      grind[maxLen]
  .cases h
def amA(f:Nat)(args:List V)(σ:St):Option (V×St):=ahN f args σ
def amB(f:Nat)(args:List V)(σ:St)(v:V)(σ':St)(h:amA f args σ=some (v,σ')):okF Tryz.prog f/\∀(N:Nat) (w0:World) (φ:Ph) (w:World) (bU:Array Value),Rel N w0 φ σ w->G8 φ args bU.toList->
  Calls Tryz.prog f bU w λe w'=>∃cv,e=.returned cv/\∃φ',Ext σ.aj φ φ'/\Rel N w0 φ' σ' w'/\RV φ' v cv/\σ.aj<=σ'.aj:=amy f args σ v σ' h
abbrev amC:List Nat:=[114
 ,61
 ,111
 ,62
 ,119
 ,112
 ,120
 ,121
 ,66
 ,23
 ,21
 ,63
 ,113
 ,59
 ,64
 ,196
 ,65
 ,19
 ,60
 ,20
 ,68
 ,58
 ,17
 ,24
 ,25
 ,157
 ,18
 ,184
 ,91
 ]
def aeB:Nat->List V->St->Option (V×St):=(Eb amC).Wi
def ab4{f:Nat}(h:amC.contains f=false)(args:List V)(σ:St):aeB f args σ=none:=by unfold aeB Eb;dsimp only;rw[h];rfl
class avm (E:Env):Prop where
 o:∀f args σ r,aeB f args σ=some r->E.Wi f args σ=some r
instance {E:Env}{f:Nat} [h:avm E] [m:Mm f amC]:jE E f:=⟨λargs v σ hv=>h.o f args σ _ (by unfold aeB;exact jE.o (E:=Eb amC) args v σ hv)⟩
def amD(f:Nat):Prop:=okF Tryz.prog f/\∀w,Calls Tryz.prog f #[] w λe w'=>e=.returned (.bool true)/\Below w.heap.size w w'
def awN:List Nat:=[
 1000000]
noncomputable section
open Classical in
def avn(f:Nat)(args:List V)(σ:St):Option (V×St):=bif awN.contains f then(match args with|[]=>if amD f then some (.c (.bool true),σ)else none|_=>none)else none
def Xp(f:Nat)(args:List V)(σ:St):Option (V×St):=match aeB f args σ with
 |some r=>some r
 |none=>match amA f args σ with
  |some r=>some r
  |none=>avn f args σ
end
class aah (E:Env):Prop where
 a:∀f args σ r,Xp f args σ=some r->E.Wi f args σ=some r
instance {E:Env} [h:aah E]:avm E:=⟨λf args σ r hv=>h.a f args σ r (by unfold Xp;rw[hv])⟩
def Rh{E:Env}[hE:aah E]{f:Nat}{args:List V}{v:V}{σ σ2:St}{K:V->St->Prop}(h:Xp f args σ=some (v,σ2)):aC E f args σ K=K v σ2:=by
 refine propext ⟨λ⟨n,v',σ',h1,h2⟩=>?_,λhk=>WS (hE.a f args σ _ h) hk⟩;have h3:jf E 1 f args σ=some (v,σ2):=by rw[jf];unfold G7;rw[hE.a f args σ _ h]
 have a:=nP (show n<=n+1 by omega) f args σ _ h1;have b:=nP (show 1<=n+1 by omega) f args σ _ h3;rw[a]at b;cases b;exact h2
section
variable {E:Env} [aah E] {σ:St} {K:V→St→Prop}
end
end Go.Proofs.Xe
namespace Go.Proofs.Xe
open Go.Proofs
set_option maxRecDepth 1000000
set_option maxHeartbeats 8000000
def EN:Env:=⟨tF Tryz.prog,Xp⟩
instance aze:aah EN:=⟨λ_ _ _ _ h=>h⟩
structure iY(k:Nat) where
 a:AF
 g:tG Tryz.prog k=some a:=by conv=>(lhs;reduce;simp only[aoS])
 i:WH Tryz.prog k a=true:=by kernel_rfl
 o:∀args σ,EN.Wi k args σ=none:=by exact λ_ _=>rfl
def iY.h{k:Nat}(b:iY k):EN.fns k=some b.a:=aoR b.g b.i
def mV:iY 6:=.mk _
def FZ:iY 10:=.mk _
def pX:iY 11:=.mk _
def tq:iY 12:=.mk _
def Dq:iY 13:=.mk _
def zi:iY 14:=.mk _
def oI:iY 15:=.mk _
def pY:iY 16:=.mk _
def tu:iY 22:=.mk _
def F5:iY 39:=.mk _
def N7:iY 40:=.mk _
def oJ:iY 41:=.mk _
def qW:iY 42:=.mk _
def tH:iY 43:=.mk _
def jS:iY 44:=.mk _
def kS:iY 45:=.mk _
def A8:iY 46:=.mk _
def bI:iY 47:=.mk _
def mW:iY 48:=.mk _
def dO:iY 49:=.mk _
def mX:iY 50:=.mk _
def xK:iY 51:=.mk _
def oK:iY 52:=.mk _
def qc:iY 53:=.mk _
def tJ:iY 54:=.mk _
def jF:iY 55:=.mk _
def lS:iY 56:=.mk _
def tK:iY 57:=.mk _
def Jl:iY 80:=.mk _
def F6:iY 81:=.mk _
def bJ:iY 82:=.mk _
def mY:iY 83:=.mk _
def qX:iY 84:=.mk _
def mZ:iY 85:=.mk _
def vG:iY 86:=.mk _
def iP:iY 87:=.mk _
def jr:iY 88:=.mk _
def jT:iY 89:=.mk _
def jU:iY 90:=.mk _
def oL:iY 92:=.mk _
def vH:iY 93:=.mk _
def tN:iY 94:=.mk _
def jV:iY 95:=.mk _
def qY:iY 96:=.mk _
def lT:iY 97:=.mk _
def lU:iY 98:=.mk _
def vI:iY 99:=.mk _
def jG:iY 100:=.mk _
def tX:iY 101:=.mk _
def cZ:iY 102:=.mk _
def kT:iY 103:=.mk _
def qg:iY 104:=.mk _
def qZ:iY 105:=.mk _
def vJ:iY 106:=.mk _
def ru:iY 107:=.mk _
def jW:iY 108:=.mk _
def xM:iY 109:=.mk _
def jH:iY 110:=.mk _
def jv:iY 139:=.mk _
def qh:iY 141:=.mk _
def nS:iY 142:=.mk _
def vK:iY 143:=.mk _
def kU:iY 144:=.mk _
def lV:iY 145:=.mk _
def lW:iY 146:=.mk _
def iq:iY 147:=.mk _
def jI:iY 148:=.mk _
def oM:iY 149:=.mk _
def tY:iY 150:=.mk _
def vM:iY 151:=.mk _
def xP:iY 152:=.mk _
def rE:iY 153:=.mk _
def fH:iY 154:=.mk _
def xQ:iY 155:=.mk _
def jl:iY 156:=.mk _
def kX:iY 158:=.mk _
def jX:iY 159:=.mk _
def jY:iY 160:=.mk _
def fD:iY 179:=.mk _
def jg:iY 180:=.mk _
def jZ:iY 185:=.mk _
def fZ:iY 186:=.mk _
def ku:iY 187:=.mk _
def vN:iY 188:=.mk _
def jw:iY 189:=.mk _
def vO:iY 190:=.mk _
def xR:iY 191:=.mk _
def rF:iY 192:=.mk _
def dV:iY 193:=.mk _
def uf:iY 194:=.mk _
def qj:iY 195:=.mk _
def kY:iY 197:=.mk _
def iQ:iY 198:=.mk _
def gu:iY 212:=.mk _
def xU:iY 216:=.mk _
def vP:iY 217:=.mk _
def kZ:iY 218:=.mk _
def nT:iY 219:=.mk _
def lX:iY 220:=.mk _
def lY:iY 221:=.mk _
def ng:iY 222:=.mk _
def lZ:iY 223:=.mk _
def xW:iY 239:=.mk _
def gV:iY 240:=.mk _
def xX:iY 241:=.mk _
end Go.Proofs.Xe
end
