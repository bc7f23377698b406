import Derived.Test.YtjhhfbbndfpdaaaGreatDoorYg13
import Derived.Lib.OwnBridge
set_option linter.all false
set_option maxHeartbeats 8000000
noncomputable section
namespace Go.Proofs.Ins
open Go.RowKit
def Et{F:Nat->List Value}{sz:Nat}:∀(n:Nat),(∀i,i<n->(F i).length=sz)->((List.range n).flatMap F).length=n*sz
 |0,_=>by simp
 |n+1,h=>by rw[fa,cL,ax,Et n (λi hi=>h i jb)];simp[h n jb,cj]
def cJ(l:List Int)(j:Nat):List Value:=[.int .i64 (l.getD j 0)]
def ad7(l:List Int):(List.range l.length).flatMap (cJ l)=l.map (Value.int .i64):=by
 apply List.ext_getElem?;intro j;by_cases h:j<l.length
 .have:=zH (sz:=1) (F:=cJ l) l.length (λi _=>rfl) j 0 h jb;grind[cJ]
 .rw[List.getElem?_eq_none,List.getElem?_eq_none]
  .simpa using h
  .rw[Et (sz:=1) l.length (λi _=>rfl)];omega
def aoG(l:List Int)(x:Int)(j:Nat)(hj:j<l.length+1):(if j<l.length then cJ l j else [.int .i64 x])=cJ (l++[x]) j:=by grind[cJ]
def Jl{w:World}{base:Nat}{T:TypeId}{v:Value}{l:List Int}:mZ w base T 1 v l.length (cJ l)↔w.ownsRow base T 1 v l.length (l.map (Value.int .i64)):=by unfold mZ;rw[ad7];exact⟨λh=>h.1,λh=>⟨h,λ_ _=>rfl⟩⟩
def below_grow{B:Nat}{w0 w:World}{os:Array Obj}(h:Below B w0 w)(hB:B<=w.heap.size):Below B w0 (Sort.grow w os):=
 ⟨h.os,h.tape,h.output,by have:=h.size;grind[Sort.grow],λk hk=>by rw[<-h.block k hk];grind[Sort.heap_grow_old]⟩
def ownsRow_grow{w:World}{base:Nat}{T:TypeId}{v:Value}{n:Nat}{xs:List Value}{os:Array Obj}(h:w.ownsRow base T 1 v n xs):(Sort.grow w os).ownsRow base T 1 v n xs:=by
 obtain⟨h1,h2⟩:=h;refine⟨h1,?_⟩;rcases h2 with h2|⟨g,cap,cur,hv,hb,hg,r⟩
 .grind
 .exact .inr ⟨g,cap,cur,hv,hb,by grind[Sort.heap_grow_old],r⟩
def Zg{w:World}{base:Nat}{T:TypeId}{sz n:Nat}{F:Nat->List Value}(h:mZ w base T sz (.slice none 0 0) n F):n=0:=by obtain⟨⟨-,h1⟩,-⟩:=h;grind
def ajZ(w:World)(base:Nat)(v:Value)(l:List Int)(h:mZ w base 3 1 v l.length (cJ l))(hb:base<=w.heap.size)(hl:l.length<4611686018427387904):
  Calls Tryz.prog 106 #[v] w λe w'=>e=.returned (.tuple #[])/\∃l':List Int,l'.length=l.length/\(∀x,x∈l'↔x∈l)/\mZ w' base 3 1 v l'.length (cJ l')/\Below base w w'/\l'=l.mergeSort λx y=>decide (x<=y):=by
 by_cases hv:v=.slice none 0 0
 .subst hv
  refine(Tryz.slices_Sort_int_none none 0 w).mono λe w' ⟨he,hw⟩=>⟨he,l,rfl,λ_=>Iff.rfl,by grind,by grind[Below.refl],by rw[eM (Zg h)];simp⟩
 .have hr:=Jl.mp h
  obtain⟨g,cap,rfl,h1,h2,h3,h4,h5,h6⟩:=Lib.holds_of_ownsRow hr hv
  refine(Tryz.slices_Sort_int g 0 cap l w h6 h2 hl).mono ?_
  rintro e w' ⟨he,n,os,rfl⟩
  refine⟨he,l.mergeSort λx y=>decide (x<=y),by simp,λx=>List.mem_mergeSort,Jl.mpr ?_,below_grow (Lib.below_putRow (Below.refl base w) h1) (by simp_all),rfl⟩
  refine ownsRow_grow ?_
  have:=Lib.ownsRow_putRow (q:=n) (k:=l.length) (ys:=l.mergeSort λx y=>decide (x<=y)) hr kc jp
  grind[List.length_mergeSort]
def Zh(w:World)(base:Nat)(v:Value)(l:List Int)(h:mZ w base 3 1 v l.length (cJ l))(hl:l.length<=9223372036854775807):
  Calls Tryz.prog 107 #[v] w λe w'=>∃v' l',e=.returned v'/\l'.length<=l.length/\(∀x,x∈l'↔x∈l)/\mZ w' base 3 1 v' l'.length (cJ l')/\Below base w w'/\l'=Lib.compact l/\(v=.slice none 0 0->v'=.slice none 0 0):=by
 by_cases hv:v=.slice none 0 0
 .subst hv
  refine(Tryz.slices_Compact_int_empty none 0 w).mono λe w' ⟨he,hw⟩=>⟨_,l,he,jp,λ_=>Iff.rfl,by grind,by grind[Below.refl],by rw[eM (Zg h)];rfl,λh=>h⟩
 .have hr:=Jl.mp h
  obtain⟨g,cap,rfl,h1,h2,h3,h4,h5,h6⟩:=Lib.holds_of_ownsRow hr hv
  refine(Tryz.slices_Compact_int g 0 cap l w h6 hl h3).mono ?_
  rintro e w' ⟨he,q,rfl⟩
  have hle:=Lib.compact_length_le l
  refine⟨_,Lib.compact l,he,hle,λx=>mem_compact,Jl.mpr ?_,Lib.below_putRow (Below.refl base w) h1,rfl,λh=>absurd h hv⟩
  grind[Lib.ownsRow_putRow,List.take_left]
def mks(l:List yF)(k:Nat):List Int:=((l.take k).map λx=>x.k).filter λx=>x !=-1
def aj0(l:List yF):mks l 0=[]:=by rfl
def aoH{l:List yF}{k:Nat}(h:k<l.length)(h2:(ix l k).k≠-1):mks l (k+1)=mks l k++[(ix l k).k]:=by grind[mks,bU]
def auj{l:List yF}{k:Nat}(h:k<l.length)(h2:(ix l k).k=-1):mks l (k+1)=mks l k:=by grind[mks,bU]
def aoI(l:List yF)(k:Nat):(mks l k).length<=k:=by grind[Go.Proofs.Ins.mks]
def aoJ{a:fD}{c:Int}:c∈mks a.flatten a.flatten.length↔c≠-1/\Qi a c=true:=by grind[mks,Qi,memT]
def ayh(w:World)(T:TypeId)(a:fD)(e:Ending)(w':World):Prop:=
 ∃v l,e=.returned v/\l.length<=a.flatten.length/\(∀c,c∈l↔c≠-1/\Qi a c=true)/\mZ w' w.heap.size T 1 v l.length (cJ l)/\Below w.heap.size w w'/\l=xP a/\(l=[]->v=.slice none 0 0)
set_option maxRecDepth 100000 in
def Zi(p:Nat->Prop)(v:Value)(a:fD)(w:World)(hA:yG w p v a)(la:a.length<=140737488351232)(lf:a.flatten.length<=1000000):
  Calls Tryz.prog 69 #[.agg #[v]] w (ayh w 3 a):=by
 have HC:=jx (λw' (h:yG w' p v a)=>Zf p v a w' h la lf)
 have HA:=jx hA
 have HM:=jx (λc=>aoJ (a:=a) (c:=c))
 have HY:=jx (λk h h2=>aoH (l:=a.flatten) (k:=k) h h2)
 have HN:=jx (λk h h2=>auj (l:=a.flatten) (k:=k) h h2)
 have HL:=jx (aoI a.flatten)
 have H0:=jx (aj0 a.flatten)
 have HML:=jx (show xP a=Lib.compact ((mks a.flatten a.flatten.length).mergeSort λx y=>decide (x<=y)) by unfold xP mks;rw[cr])
 unfold ayh
 clear hA
 generalize hmm:mks a.flatten=MK at*
 generalize hfl:a.flatten=fl at*
 clear hmm hfl
 generalize hN:fl.length=N at*
 go_enter Tryz.func69,Tryz.ntmps69
 go_wp2_with fail
 refine(HC.out _ (HA.out.on ((Below.refl _ _).alloc jp _))).mono ?_
 rintro e w1 ⟨v1,rfl,ho1,hb1⟩
 obtain⟨-,HB⟩:=asg hb1
 have HB:=jx HB
 have hz1:=HB.out.size
 have hsl:=ho1.sl
 obtain⟨a1,cap1,rfl,-,-⟩:=hsl.form
 have HSL:=jx hsl
 clear ho1 hb1 hsl HC HA
 go_wp2_with fail
 go_loopw [3,10] (λv i wr=>∃k:Nat,i=.int .i64 k/\k<=N/\mZ wr w1.heap.size 3 1 v (MK k).length (cJ (MK k))/\Below w1.heap.size w1 wr/\Hid (MK k=[]->v=.slice none 0 0)) (λ_ i _=>N-(intOf i).toNat)
 case atStart=>exact⟨0,rfl,jb,by rw[H0.out];exact mZ.nil _ _ _ _ _,Below.refl _ _,jx λ_=>rfl⟩
 case round=>
  obtain⟨k,rfl,hk,hown,hbel,HNV⟩:=hrel;have HO:=jx hown;have HBR:=jx hbel;have hsz:=hbel.size;by_cases hlt:k<N
  .obtain⟨b,off,rfl,-,-,-⟩:=HSL.out.get jb;have e0:=HSL.out.cellAt rfl hbel (i:=k) (j:=0) hlt jb;have e1:wr.cell? ⟨b,off+k*5+1,none⟩=some (Value.bool (ix fl k).b):=HSL.out.cellAt rfl hbel (i:=k) (j:=1) hlt jb;have e2:wr.cell? ⟨b,off+k*5+2,none⟩=some (Value.bool (ix fl k).a.n):=HSL.out.cellAt rfl hbel (i:=k) (j:=2) hlt jb;have e3:wr.cell? ⟨b,off+k*5+3,none⟩=some (Value.string (ix fl k).a.s):=HSL.out.cellAt rfl hbel (i:=k) (j:=3) hlt jb;have e4:wr.cell? ⟨b,off+k*5+4,none⟩=some (Value.string (ix fl k).a.d):=HSL.out.cellAt rfl hbel (i:=k) (j:=4) hlt jb;rw[bO]at e0;have e0':wr.cell? ⟨b,off+k*5,none⟩=some (Value.int .i64 (ix fl k).k):=e0;have HYK:=jx (HY.out k jb);have HNK:=jx (HN.out k jb);have hlk:=HL.out k;have i1:(0:Int)<=(k:Int):=jb;have i2:(k:Int)<(N:Int):=jb;clear e0 hown hbel HY HN HL HM;generalize ayi:MK (k+1)=M1 at*;have HM1:=jx ayi;generalize aA5:MK k=M0 at*;clear ayi aA5;generalize (ix fl k).k=x at*;generalize (ix fl k).b=pb at*;generalize (ix fl k).a.n=an at*;generalize (ix fl k).a.s=as' at*;generalize (ix fl k).a.d=ad at*;by_cases hx:x=-1
   .have h1:(x !=-1)=false:=by simp[hx]
    have HX:=jx (HNK.out hx);clear HYK HNK;go_wp2;go_roundw
    case rel=>exact⟨k+1,by go_num,jb,by rw[HM1.out,HX.out];exact HO.out.below ((Below.refl _ _).alloc jp _) jp,HBR.out.alloc jb _,jx λh=>HNV.out (by rwa[HM1.out,HX.out]at h)⟩
    case measure=>simp[intOf];omega
   .have h1:(x !=-1)=true:=by simp[hx]
    have HX:=jx (HYK.out hx);have HO2:=jx (HO.out.below ((Below.refl wr.heap.size wr).alloc jp (.cells #[.int .i64 x,.bool pb,.bool an,.string as',.string ad] 90)) jp);have hz2:(wr.alloc (.cells #[.int .i64 x,.bool pb,.bool an,.string as',.string ad] 90)).heap.size=wr.heap.size+1:=by simp
    clear HYK HNK;go_wp2_with (refine OQ _ _ 123 3 1 8 w1.heap.size _ _ _ [.int .i64 x] (by rfl) (by rfl) Tryz.underlying123 anf jb (by rfl) (by rfl) (by simp[Value.oneCell']) (by rw[World.size_alloc];rfl) HO2.out jb jb (by rw[World.size_alloc];omega) ?_;intro v9 w9 ho9 hb9;have HO9:=jx ho9;have HB9:=jx hb9;clear ho9 hb9)
    go_roundw
    case rel=>
     refine⟨k+1,by go_num,jb,?_,(HBR.out.alloc jb _).trans HB9.out,jx λh=>by rw[HM1.out,HX.out]at h;simp at h⟩;rw[HM1.out,HX.out,ax];exact HO9.out.congr λj hj=>aoG _ _ j hj
    case measure=>simp[intOf];omega
  .obtain rfl:k=N:=jb;have hnl:decide ((k:Int)<(k:Int))=false:=by simp
   have hlk:=HL.out k;have HST:=jx (ajZ wr w1.heap.size u3 (MK k) hown jb jb);go_wp2_with fail;refine HST.out.mono ?_;rintro e w2 ⟨rfl,l2,hl2,hm2,ho2,hb2,hs2⟩;have HCP:=jx (Zh w2 w1.heap.size u3 l2 ho2 jb);have HB2:=jx (HBR.out.trans hb2);have HM2:=jx hm2;have HS2:=jx hs2;clear ho2 hb2 HST hm2 hown hbel hs2;go_wp2_with fail;refine HCP.out.mono ?_;rintro e w3 ⟨v3,l3,rfl,hl3,hm3,ho3,hb3,hc3,hn3⟩;have HO3:=jx ho3;have HM3:=jx hm3;have HB3:=jx (HB2.out.trans hb3);have HC3:=jx hc3;have HN3:=jx hn3;clear ho3 hm3 hb3 hc3 hn3;go_wp2;go_ret;exact⟨_,l3,rfl,jb,λc=>by rw[HM3.out,HM2.out,HM.out],HO3.out.mono jb,chain HB.out HB3.out jp,by rw[HC3.out,HS2.out,HML.out],λh=>HN3.out (HNV.out (List.eq_nil_iff_forall_not_mem.mpr λx hx=>by have:=(HM3.out x).mpr ((HM2.out x).mpr hx);rw[h]at this;cases this))⟩
end Go.Proofs.Ins
namespace Go.Proofs.Xe
open Go.RowKit Go.Proofs.Ins
theorem Zj:∀l:List Int,ones l.length (λi=>B.int .i64 (ix l i))=l.map (B.int .i64)
 |[]=>rfl
 |x::l=>by show [B.int .i64 x]++aY l.length (λi=>[B.int .i64 (ix l i)])=_;have:=Zj l;unfold ones at this;rw[this];rfl
theorem Zl(φ:Ph):∀l:List Int,lX φ (l.map (B.int .i64)) (l.map (Value.int .i64))
 |[]=>trivial
 |_::l=>⟨rfl,Zl φ l⟩
def aj1(l:List Int)(J:St):Option (V×St):=if l.length=0 then some (.c .aO,J)else some (.c (.sl J.aj 0 l.length .opn),⟨hset J.h J.aj ⟨ones l.length (λi=>.int .i64 (ix l i)),some (1,3)⟩,J.aj+1⟩)
def ad9{φ:Ph}:∀{n:Nat}{G:Nat->List B}{F:Nat->List Value},(∀i,i<n->lX φ (G i) (F i))->lX φ (aY n G) ((List.range n).flatMap F)
 |0,_,_,_=>trivial
 |n+1,G,F,h=>by rw[List.range_succ_eq_map,gc,ie];exact lX.append (h 0 jb) (ad9 λi hi=>h (i+1) jb)
def aj2(l:List yF)(J:St):Option (V×St):=if l.length=0 then some (.c .aO,J)else some (.c (.sl J.aj 0 l.length .opn),⟨hset J.h J.aj ⟨aY l.length λi=>Aq (ix l i),some (5,90)⟩,J.aj+1⟩)
noncomputable section
open Classical in
def aj3(args:List V)(J:St):Option (V×St):=match args with
 |[.agg [v]]=>if h:∃a,dR (λ_=>True) J.h v a/\a.length<=1000000/\a.flatten.length<=1000000 then aj1 (xP (Classical.choose h)) J else none
 |_=>none
open Classical in
def aj6(args:List V)(J:St):Option (V×St):=match args with
 |[.c v]=>if h:∃a,dR (λ_=>True) J.h v a/\a.length<=1000000/\a.flatten.length<=1000000 then aj2 (Classical.choose h).flatten J else none
 |_=>none
def aj7(f:Nat)(args:List V)(J:St):Option (V×St):=
 if f=105 then aj6 args J
 else if f=69 then aj3 args J
 else none
end
def aoK{p:Nat->Prop}{J:St}{v:B}{a:fD}(ha:dR p J.h v a)(h1:a.length<=1000000)(h2:a.flatten.length<=1000000):aj3 [.agg [v]] J=aj1 (xP a) J:=by
 have h:∃a,dR (λ_=>True) J.h v a/\a.length<=1000000/\a.flatten.length<=1000000:=⟨a,ha.keep (λ_ _=>rfl) λ_ _=>trivial,h1,h2⟩
 unfold aj3;dsimp only;rw[dif_pos h,(Classical.choose_spec h).1.uniq ha]
def aj8{args:List V}{J J':St}{v:V}(h:aj3 args J=some (v,J')):∃t a,args=[.agg [t]]/\aj1 (xP a) J=some (v,J')/\dR (λ_=>True) J.h t a/\a.length<=1000000/\a.flatten.length<=1000000:=by
 unfold aj3 at h;split at h
 .next t=>
  split at h
  .grind
  .cases h
 .cases h
def aoL{p:Nat->Prop}{J:St}{v:B}{a:fD}(ha:dR p J.h v a)(h1:a.length<=1000000)(h2:a.flatten.length<=1000000):aj6 [.c v] J=aj2 a.flatten J:=by
 have h:∃a,dR (λ_=>True) J.h v a/\a.length<=1000000/\a.flatten.length<=1000000:=⟨a,ha.keep (λ_ _=>rfl) λ_ _=>trivial,h1,h2⟩
 unfold aj6;dsimp only;rw[dif_pos h,(Classical.choose_spec h).1.uniq ha]
def aj9{args:List V}{J J':St}{v:V}(h:aj6 args J=some (v,J')):∃t a,args=[.c t]/\aj2 a.flatten J=some (v,J')/\dR (λ_=>True) J.h t a/\a.length<=1000000/\a.flatten.length<=1000000:=by
 unfold aj6 at h;split at h
 .next t=>
  split at h
  .grind
  .cases h
 .cases h
def aea{φ:Ph}{bH:Array Value}{x:V}(h:IY φ [x] bH.toList):∃u,bH= #[u]/\RV φ x u:=by
 obtain⟨l⟩:=bH;match l,h with
 |[u],h=>exact⟨u,rfl,h.1⟩
def aoM(f:Nat)(args:List V)(J:St)(v:V)(J':St)(h:aj7 f args J=some (v,J')):okF Tryz.prog f/\∀(N:Nat) (w0:World) (φ:Ph) (w:World) (bH:Array Value),Rel N w0 φ J w->IY φ args bH.toList->
  Calls Tryz.prog f bH w λe w'=>∃cv,e=.returned cv/\∃φ',Ext J.aj φ φ'/\Rel N w0 φ' J' w'/\RV φ' v cv/\J.aj<=J'.aj:=by
 unfold aj7 at h
 split at h
 .next e=>
  subst e
  obtain⟨t,a,rfl,h3,h1,la,lf⟩:=aj9 h
  refine⟨sJ (by kernel_rfl),λN w0 φ w bH hR ha=>?_⟩
  obtain⟨u,rfl,hu⟩:=aea ha
  refine(Jk (InW w) u a w (h1.un hR hu) jb lf).mono ?_
  rintro e w' ⟨v',rfl,ho,hb,hz⟩
  generalize a.flatten=l at*
  unfold aj2 at h3
  split at h3
  .next h0=>
   cases h3
   exact⟨_,rfl,φ,Ext.refl _ _,hR.below hb,hz h0,jp⟩
  .next h0=>
   cases h3
   obtain⟨⟨-,h4⟩,-⟩:=ho
   rcases h4 with⟨-,h4⟩|⟨c,cap,cur,rfl,hc,hg,hnc,hm,hs,hx⟩
   .omega
   .have hN:J.new ⟨aY l.length λi=>Aq (ix l i),some (5,90)⟩=some (J.aj,⟨hset J.h J.aj ⟨aY l.length λi=>Aq (ix l i),some (5,90)⟩,J.aj+1⟩):=lY _ _
    have hol:(aY l.length λi=>Aq (ix l i)).length=l.length*5:=ng λ_=>rfl
    have hcl:c<w'.heap.size:=(ff.mp hg).1
    refine⟨_,rfl,_,yx φ J.aj (c,cap),(hR.below hb).new hN (w':=w') ⟨rfl,rfl,rfl,jp,λ_ _ _=>rfl⟩ (ar hR.size hc) hcl (λi p hi _ e=>?_) (.inl ⟨Fq jj,cur,90,hg,?_,?_,λe t he=>?_⟩),.inl ⟨(c,cap),cap,iq _ _ _,rfl,hnc,?_,rfl,rfl⟩,by simp⟩
    .have:=hR.lo i p hi
     omega
    .show lX φ (aY l.length λi=>Aq (ix l i)) (cur.toList.take (aY l.length λi=>Aq (ix l i)).length)
     rw[hol,hx]
     exact ad9 λi _=>⟨rfl,rfl,rfl,rfl,rfl,trivial⟩
    .grind
    .grind
    grind[maxLen]
 .split at h
  .next e=>
   subst e
   obtain⟨t,a,rfl,h3,h1,la,lf⟩:=aj8 h
   refine⟨sJ (by kernel_rfl),λN w0 φ w bH hR ha=>?_⟩
   obtain⟨u,rfl,hu⟩:=aea ha
   obtain⟨r,rfl,hr⟩:=hu
   obtain⟨rl⟩:=r
   match rl,hr with
   |[tv],⟨ht,_⟩=>
    refine(Zi (InW w) tv a w (h1.un hR ht) jb lf).mono ?_
    rintro e w' ⟨v',l,rfl,-,-,ho,hb,hl,hn⟩
    rw[<-hl]at h3
    unfold aj1 at h3
    split at h3
    .next h0=>
     cases h3
     exact⟨_,rfl,φ,Ext.refl _ _,hR.below hb,hn (eM h0),jp⟩
    .next h0=>
     cases h3
     obtain⟨⟨-,h4⟩,-⟩:=ho
     rcases h4 with⟨-,h4⟩|⟨c,cap,cur,rfl,hc,hg,hnc,hm,hs,hx⟩
     .omega
     .have hN:J.new ⟨ones l.length (λi=>.int .i64 (ix l i)),some (1,3)⟩=some (J.aj,⟨hset J.h J.aj ⟨ones l.length (λi=>.int .i64 (ix l i)),some (1,3)⟩,J.aj+1⟩):=lY _ _
      rw[ad7,eC]at hx
      have hol:(ones l.length λi=>B.int .i64 (ix l i)).length=l.length:=by grind[Qe]
      have hcl:c<w'.heap.size:=(ff.mp hg).1
      refine⟨_,rfl,_,yx φ J.aj (c,cap),(hR.below hb).new hN (w':=w') ⟨rfl,rfl,rfl,jp,λ_ _ _=>rfl⟩ (ar hR.size hc) hcl (λi p hi _ e=>?_) (.inl ⟨Fq jj,cur,3,hg,?_,?_,λe t he=>?_⟩),.inl ⟨(c,cap),cap,iq _ _ _,rfl,hnc,?_,rfl,rfl⟩,by simp⟩
      .have:=hR.lo i p hi
       omega
      .grind[Zj,Zl]
      .grind
      .grind
      grind[maxLen]
  .cases h
def aoN(f:Nat)(args:List V)(J:St):Option (V×St):=aj7 f args J
def aoO(f:Nat)(args:List V)(J:St)(v:V)(J':St)(h:aoN f args J=some (v,J')):okF Tryz.prog f/\∀(N:Nat) (w0:World) (φ:Ph) (w:World) (bH:Array Value),Rel N w0 φ J w->IY φ args bH.toList->
  Calls Tryz.prog f bH w λe w'=>∃cv,e=.returned cv/\∃φ',Ext J.aj φ φ'/\Rel N w0 φ' J' w'/\RV φ' v cv/\J.aj<=J'.aj:=aoM f args J v J' h
abbrev aoP:List Nat:=[195
 ,208
 ,138
 ,98
 ,136
 ,99
 ,148
 ,137
 ,153
 ,154
 ,20
 ,19
 ,9
 ,100
 ,108
 ,73
 ,115
 ,166
 ,116
 ,81
 ,72
 ,49
 ,97
 ,96
 ,92
 ,55
 ,135
 ,133
 ,56
 ,149
 ,54
 ,59
 ,63
 ,38
 ,18
 ,67
 ,41
 ,17
 ,42
 ,22
 ,8
 ]
def agK:Nat->List V->St->Option (V×St):=(Eb aoP).Yr
def aeb{f:Nat}(h:aoP.contains f=false)(args:List V)(J:St):agK f args J=none:=by unfold agK Eb;dsimp only;rw[h];rfl
class ayj (E:Env):Prop where
 o:∀f args J r,agK f args J=some r->E.Yr f args J=some r
instance {E:Env}{f:Nat} [h:ayj E] [m:Mm f aoP]:ji E f:=⟨λargs v J hv=>h.o f args J _ (by unfold agK;exact ji.o (E:=Eb aoP) args v J hv)⟩
def aoQ(f:Nat):Prop:=okF Tryz.prog f/\∀w,Calls Tryz.prog f #[] w λe w'=>e=.returned (.bool true)/\Below w.heap.size w w'
def awN:List Nat:=[
 1000000]
noncomputable section
open Classical in
def ayk(f:Nat)(args:List V)(J:St):Option (V×St):=bif awN.contains f then(match args with|[]=>if aoQ f then some (.c (.bool true),J)else none|_=>none)else none
def Zm(f:Nat)(args:List V)(J:St):Option (V×St):=match agK f args J with
 |some r=>some r
 |none=>match aoN f args J with
  |some r=>some r
  |none=>ayk f args J
end
class ab4 (E:Env):Prop where
 a:∀f args J r,Zm f args J=some r->E.Yr f args J=some r
instance {E:Env} [h:ab4 E]:ayj E:=⟨λf args J r hv=>h.a f args J r (by unfold Zm;rw[hv])⟩
def UK{E:Env}[hE:ab4 E]{f:Nat}{args:List V}{v:V}{J σ2:St}{K:V->St->Prop}(h:Zm f args J=some (v,σ2)):aC E f args J K=K v σ2:=by
 refine propext ⟨λ⟨n,v',J',h1,h2⟩=>?_,λhk=>YT (hE.a f args J _ h) hk⟩;have h3:jl E 1 f args J=some (v,σ2):=by rw[jl];unfold IX;rw[hE.a f args J _ h]
 have a:=oQ (show n<=n+1 by omega) f args J _ h1;have b:=oQ (show 1<=n+1 by omega) f args J _ h3;rw[a]at b;cases b;exact h2
section
variable {E:Env} [ab4 E] {J:St} {K:V→St→Prop}
end
end Go.Proofs.Xe
namespace Go.Proofs.Xe
open Go.Proofs
set_option maxRecDepth 1000000
set_option maxHeartbeats 8000000
def EN:Env:=⟨tF Tryz.prog,Zm⟩
instance aCM:ab4 EN:=⟨λ_ _ _ _ h=>h⟩
structure jc(k:Nat) where
 a:AF
 g:tG Tryz.prog k=some a:=by conv=>(lhs;reduce;simp only[ars])
 i:YJ Tryz.prog k a=true:=by kernel_rfl
 o:∀args J,EN.Yr k args J=none:=by exact λ_ _=>rfl
def jc.h{k:Nat}(b:jc k):EN.fns k=some b.a:=arq b.g b.i
def oz:jc 3:=.mk _
def Eu:jc 4:=.mk _
def Hl:jc 5:=.mk _
def ru:jc 6:=.mk _
def KP:jc 7:=.mk _
def Ew:jc 10:=.mk _
def BQ:jc 11:=.mk _
def BR:jc 12:=.mk _
def KQ:jc 13:=.mk _
def Ho:jc 14:=.mk _
def qj:jc 15:=.mk _
def lq:jc 16:=.mk _
def ql:jc 21:=.mk _
def Hq:jc 23:=.mk _
def Ql:jc 24:=.mk _
def sS:jc 25:=.mk _
def nC:jc 26:=.mk _
def uT:jc 27:=.mk _
def oV:jc 28:=.mk _
def qw:jc 29:=.mk _
def kC:jc 30:=.mk _
def KR:jc 43:=.mk _
def Hr:jc 44:=.mk _
def sU:jc 45:=.mk _
def oC:jc 46:=.mk _
def fO:jc 47:=.mk _
def lu:jc 48:=.mk _
def uU:jc 50:=.mk _
def lC:jc 51:=.mk _
def l9:jc 52:=.mk _
def mF:jc 53:=.mk _
def rD:jc 57:=.mk _
def jJ:jc 68:=.mk _
def rE:jc 70:=.mk _
def gW:jc 71:=.mk _
def wP:jc 74:=.mk _
def iL:jc 75:=.mk _
def jK:jc 76:=.mk _
def lF:jc 77:=.mk _
def lH:jc 78:=.mk _
def qx:jc 79:=.mk _
def wQ:jc 80:=.mk _
def nG:jc 82:=.mk _
def kD:jc 83:=.mk _
def uV:jc 84:=.mk _
def lI:jc 85:=.mk _
def sV:jc 86:=.mk _
def nH:jc 87:=.mk _
def nI:jc 88:=.mk _
def wR:jc 89:=.mk _
def kF:jc 90:=.mk _
def uX:jc 91:=.mk _
def lJ:jc 93:=.mk _
def qy:jc 94:=.mk _
def iM:jc 95:=.mk _
def eH:jc 103:=.mk _
def jq:jc 104:=.mk _
def oW:jc 109:=.mk _
def wS:jc 110:=.mk _
def mG:jc 111:=.mk _
def nJ:jc 112:=.mk _
def nK:jc 113:=.mk _
def iw:jc 114:=.mk _
def kG:jc 117:=.mk _
def sW:jc 118:=.mk _
def wU:jc 119:=.mk _
def sZ:jc 120:=.mk _
def lK:jc 121:=.mk _
def yH:jc 122:=.mk _
def kH:jc 123:=.mk _
def iY:jc 124:=.mk _
def qA:jc 125:=.mk _
def uY:jc 126:=.mk _
def wV:jc 127:=.mk _
def yI:jc 128:=.mk _
def tq:jc 129:=.mk _
def fA:jc 130:=.mk _
def yJ:jc 131:=.mk _
def jw:jc 132:=.mk _
def mJ:jc 134:=.mk _
def gu:jc 144:=.mk _
def lM:jc 150:=.mk _
def gy:jc 151:=.mk _
def lN:jc 152:=.mk _
def lQ:jc 155:=.mk _
def lS:jc 156:=.mk _
def jy:jc 157:=.mk _
def wW:jc 158:=.mk _
def jL:jc 159:=.mk _
def wX:jc 160:=.mk _
def yK:jc 161:=.mk _
def tu:jc 162:=.mk _
def dN:jc 163:=.mk _
def uZ:jc 164:=.mk _
def rF:jc 165:=.mk _
def mM:jc 167:=.mk _
def iO:jc 168:=.mk _
def yL:jc 187:=.mk _
def wY:jc 188:=.mk _
def mO:jc 189:=.mk _
def oZ:jc 190:=.mk _
def nM:jc 191:=.mk _
def nN:jc 192:=.mk _
def oD:jc 193:=.mk _
def nO:jc 194:=.mk _
def yM:jc 212:=.mk _
def gY:jc 213:=.mk _
def yN:jc 214:=.mk _
end Go.Proofs.Xe
end
