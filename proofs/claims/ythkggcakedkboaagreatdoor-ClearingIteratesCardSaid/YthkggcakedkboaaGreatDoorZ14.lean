import Derived.Test.YthkggcakedkboaaGreatDoorZ13
import Derived.Lib.OwnBridge
set_option linter.all false
set_option maxHeartbeats 8000000
noncomputable section
namespace Go.Proofs.Ins
open Go.RowKit
def CX{F:Nat->List Value}{sz:Nat}:∀(n:Nat),(∀i,i<n->(F i).length=sz)->((List.range n).flatMap F).length=n*sz
 |0,_=>by simp
 |n+1,h=>by rw[fT,cP,aD,CX n (λi hi=>h i jb)];simp[h n jb,cB]
def cJ(l:List Int)(j:Nat):List Value:=[.int .i64 (l.getD j 0)]
def abO(l:List Int):(List.range l.length).flatMap (cJ l)=l.map (Value.int .i64):=by
 apply List.ext_getElem?;intro j;by_cases h:j<l.length
 .have:=yu (sz:=1) (F:=cJ l) l.length (λi _=>rfl) j 0 h jb;grind[cJ]
 .rw[List.getElem?_eq_none,List.getElem?_eq_none]
  .simpa using h
  .rw[CX (sz:=1) l.length (λi _=>rfl)];omega
def ame(l:List Int)(x:Int)(j:Nat)(hj:j<l.length+1):(if j<l.length then cJ l j else [.int .i64 x])=cJ (l++[x]) j:=by grind[cJ]
def Ia{w:World}{base:Nat}{T:TypeId}{v:Value}{l:List Int}:lU w base T 1 v l.length (cJ l)↔w.ownsRow base T 1 v l.length (l.map (Value.int .i64)):=by unfold lU;rw[abO];exact⟨λh=>h.1,λh=>⟨h,λ_ _=>rfl⟩⟩
def below_grow{B:Nat}{w0 w:World}{os:Array Obj}(h:Below B w0 w)(hB:B<=w.heap.size):Below B w0 (Sort.grow w os):=
 ⟨h.os,h.tape,h.output,by have:=h.size;grind[Sort.grow],λk hk=>by rw[<-h.block k hk];grind[Sort.heap_grow_old]⟩
def ownsRow_grow{w:World}{base:Nat}{T:TypeId}{v:Value}{n:Nat}{xs:List Value}{os:Array Obj}(h:w.ownsRow base T 1 v n xs):(Sort.grow w os).ownsRow base T 1 v n xs:=by
 obtain⟨h1,h2⟩:=h;refine⟨h1,?_⟩;rcases h2 with h2|⟨g,cap,cur,hv,hb,hg,r⟩
 .grind
 .exact .inr ⟨g,cap,cur,hv,hb,by grind[Sort.heap_grow_old],r⟩
def Xa{w:World}{base:Nat}{T:TypeId}{sz n:Nat}{F:Nat->List Value}(h:lU w base T sz (.slice none 0 0) n F):n=0:=by obtain⟨⟨-,h1⟩,-⟩:=h;grind
def ahz(w:World)(base:Nat)(v:Value)(l:List Int)(h:lU w base 3 1 v l.length (cJ l))(hb:base<=w.heap.size)(hl:l.length<4611686018427387904):
  Calls Tryz.prog 134 #[v] w λe w'=>e=.returned (.tuple #[])/\∃l':List Int,l'.length=l.length/\(∀x,x∈l'↔x∈l)/\lU w' base 3 1 v l'.length (cJ l')/\Below base w w'/\l'=l.mergeSort λx y=>decide (x<=y):=by
 by_cases hv:v=.slice none 0 0
 .subst hv
  refine(Tryz.slices_Sort_int_none none 0 w).mono λe w' ⟨he,hw⟩=>⟨he,l,rfl,λ_=>Iff.rfl,by grind,by grind[Below.refl],by rw[fj (Xa h)];simp⟩
 .have hr:=Ia.mp h
  obtain⟨g,cap,rfl,h1,h2,h3,h4,h5,h6⟩:=Lib.holds_of_ownsRow hr hv
  refine(Tryz.slices_Sort_int g 0 cap l w h6 h2 hl).mono ?_
  rintro e w' ⟨he,n,os,rfl⟩
  refine⟨he,l.mergeSort λx y=>decide (x<=y),by simp,λx=>List.mem_mergeSort,Ia.mpr ?_,below_grow (Lib.below_putRow (Below.refl base w) h1) (by simp_all),rfl⟩
  refine ownsRow_grow ?_
  have:=Lib.ownsRow_putRow (q:=n) (k:=l.length) (ys:=l.mergeSort λx y=>decide (x<=y)) hr kc jp
  grind[List.length_mergeSort]
def Xb(w:World)(base:Nat)(v:Value)(l:List Int)(h:lU w base 3 1 v l.length (cJ l))(hl:l.length<=9223372036854775807):
  Calls Tryz.prog 135 #[v] w λe w'=>∃v' l',e=.returned v'/\l'.length<=l.length/\(∀x,x∈l'↔x∈l)/\lU w' base 3 1 v' l'.length (cJ l')/\Below base w w'/\l'=Lib.compact l/\(v=.slice none 0 0->v'=.slice none 0 0):=by
 by_cases hv:v=.slice none 0 0
 .subst hv
  refine(Tryz.slices_Compact_int_empty none 0 w).mono λe w' ⟨he,hw⟩=>⟨_,l,he,jp,λ_=>Iff.rfl,by grind,by grind[Below.refl],by rw[fj (Xa h)];rfl,λh=>h⟩
 .have hr:=Ia.mp h
  obtain⟨g,cap,rfl,h1,h2,h3,h4,h5,h6⟩:=Lib.holds_of_ownsRow hr hv
  refine(Tryz.slices_Compact_int g 0 cap l w h6 hl h3).mono ?_
  rintro e w' ⟨he,q,rfl⟩
  have hle:=Lib.compact_length_le l
  refine⟨_,Lib.compact l,he,hle,λx=>mem_compact,Ia.mpr ?_,Lib.below_putRow (Below.refl base w) h1,rfl,λh=>absurd h hv⟩
  grind[Lib.ownsRow_putRow,List.take_left]
def mks(l:List Au)(k:Nat):List Int:=((l.take k).map λx=>x.k).filter λx=>x !=-1
def ahA(l:List Au):mks l 0=[]:=by rfl
def amf{l:List Au}{k:Nat}(h:k<l.length)(h2:(ix l k).k≠-1):mks l (k+1)=mks l k++[(ix l k).k]:=by grind[mks,bJ]
def arq{l:List Au}{k:Nat}(h:k<l.length)(h2:(ix l k).k=-1):mks l (k+1)=mks l k:=by grind[mks,bJ]
def amg(l:List Au)(k:Nat):(mks l k).length<=k:=by grind[Go.Proofs.Ins.mks]
def amh{a:iy}{c:Int}:c∈mks a.flatten a.flatten.length↔c≠-1/\NM a c=true:=by grind[mks,NM,memT]
def auX(w:World)(T:TypeId)(a:iy)(e:Ending)(w':World):Prop:=
 ∃v l,e=.returned v/\l.length<=a.flatten.length/\(∀c,c∈l↔c≠-1/\NM a c=true)/\lU w' w.heap.size T 1 v l.length (cJ l)/\Below w.heap.size w w'/\l=wH a/\(l=[]->v=.slice none 0 0)
set_option maxRecDepth 100000 in
def Xc(p:Nat->Prop)(v:Value)(a:iy)(w:World)(hA:xA w p v a)(la:a.length<=140737488351232)(lf:a.flatten.length<=1000000):
  Calls Tryz.prog 91 #[.agg #[v]] w (auX w 3 a):=by
 have HC:=jx (λw' (h:xA w' p v a)=>W9 p v a w' h la lf)
 have HA:=jx hA
 have HM:=jx (λc=>amh (a:=a) (c:=c))
 have HY:=jx (λk h h2=>amf (l:=a.flatten) (k:=k) h h2)
 have HN:=jx (λk h h2=>arq (l:=a.flatten) (k:=k) h h2)
 have HL:=jx (amg a.flatten)
 have H0:=jx (ahA a.flatten)
 have HML:=jx (show wH a=Lib.compact ((mks a.flatten a.flatten.length).mergeSort λx y=>decide (x<=y)) by unfold wH mks;rw[cn])
 unfold auX
 clear hA
 generalize hmm:mks a.flatten=MK at*
 generalize hfl:a.flatten=fl at*
 clear hmm hfl
 generalize hN:fl.length=N at*
 go_enter Tryz.func91,Tryz.ntmps91
 go_wp2_with fail
 refine(HC.out _ (HA.out.on ((Below.refl _ _).alloc jp _))).mono ?_
 rintro e w1 ⟨v1,rfl,ho1,hb1⟩
 obtain⟨-,HB⟩:=apo hb1
 have HB:=jx HB
 have hz1:=HB.out.size
 have hsl:=ho1.sl
 obtain⟨a1,cap1,rfl,-,-⟩:=hsl.form
 have HSL:=jx hsl
 clear ho1 hb1 hsl HC HA
 go_wp2_with fail
 go_loopw [3,10] (λv i wr=>∃k:Nat,i=.int .i64 k/\k<=N/\lU wr w1.heap.size 3 1 v (MK k).length (cJ (MK k))/\Below w1.heap.size w1 wr/\Hid (MK k=[]->v=.slice none 0 0)) (λ_ i _=>N-(intOf i).toNat)
 case atStart=>exact⟨0,rfl,jb,by rw[H0.out];exact lU.nil _ _ _ _ _,Below.refl _ _,jx λ_=>rfl⟩
 case round=>
  obtain⟨k,rfl,hk,hown,hbel,HNV⟩:=hrel;have HO:=jx hown;have HBR:=jx hbel;have hsz:=hbel.size;by_cases hlt:k<N
  .obtain⟨b,off,rfl,-,-,-⟩:=HSL.out.get jb;have e0:=HSL.out.cellAt rfl hbel (i:=k) (j:=0) hlt jb;have e1:wr.cell? ⟨b,off+k*5+1,none⟩=some (Value.bool (ix fl k).b):=HSL.out.cellAt rfl hbel (i:=k) (j:=1) hlt jb;have e2:wr.cell? ⟨b,off+k*5+2,none⟩=some (Value.bool (ix fl k).a.n):=HSL.out.cellAt rfl hbel (i:=k) (j:=2) hlt jb;have e3:wr.cell? ⟨b,off+k*5+3,none⟩=some (Value.string (ix fl k).a.s):=HSL.out.cellAt rfl hbel (i:=k) (j:=3) hlt jb;have e4:wr.cell? ⟨b,off+k*5+4,none⟩=some (Value.string (ix fl k).a.d):=HSL.out.cellAt rfl hbel (i:=k) (j:=4) hlt jb;rw[cD]at e0;have e0':wr.cell? ⟨b,off+k*5,none⟩=some (Value.int .i64 (ix fl k).k):=e0;have HYK:=jx (HY.out k jb);have HNK:=jx (HN.out k jb);have hlk:=HL.out k;have i1:(0:Int)<=(k:Int):=jb;have i2:(k:Int)<(N:Int):=jb;clear e0 hown hbel HY HN HL HM;generalize auY:MK (k+1)=M1 at*;have HM1:=jx auY;generalize axn:MK k=M0 at*;clear auY axn;generalize (ix fl k).k=x at*;generalize (ix fl k).b=pb at*;generalize (ix fl k).a.n=an at*;generalize (ix fl k).a.s=as' at*;generalize (ix fl k).a.d=ad at*;by_cases hx:x=-1
   .have h1:(x !=-1)=false:=by simp[hx]
    have HX:=jx (HNK.out hx);clear HYK HNK;go_wp2;go_roundw
    case rel=>exact⟨k+1,by go_num,jb,by rw[HM1.out,HX.out];exact HO.out.below ((Below.refl _ _).alloc jp _) jp,HBR.out.alloc jb _,jx λh=>HNV.out (by rwa[HM1.out,HX.out]at h)⟩
    case measure=>simp[intOf];omega
   .have h1:(x !=-1)=true:=by simp[hx]
    have HX:=jx (HYK.out hx);have HO2:=jx (HO.out.below ((Below.refl wr.heap.size wr).alloc jp (.cells #[.int .i64 x,.bool pb,.bool an,.string as',.string ad] 97)) jp);have hz2:(wr.alloc (.cells #[.int .i64 x,.bool pb,.bool an,.string as',.string ad] 97)).heap.size=wr.heap.size+1:=by simp
    clear HYK HNK;go_wp2_with (refine MF _ _ 127 3 1 8 w1.heap.size _ _ _ [.int .i64 x] (by rfl) (by rfl) Tryz.underlying127 akK jb (by rfl) (by rfl) (by simp[Value.oneCell']) (by rw[World.size_alloc];rfl) HO2.out jb jb (by rw[World.size_alloc];omega) ?_;intro v9 w9 ho9 hb9;have HO9:=jx ho9;have HB9:=jx hb9;clear ho9 hb9)
    go_roundw
    case rel=>
     refine⟨k+1,by go_num,jb,?_,(HBR.out.alloc jb _).trans HB9.out,jx λh=>by rw[HM1.out,HX.out]at h;simp at h⟩;rw[HM1.out,HX.out,aD];exact HO9.out.congr λj hj=>ame _ _ j hj
    case measure=>simp[intOf];omega
  .obtain rfl:k=N:=jb;have hnl:decide ((k:Int)<(k:Int))=false:=by simp
   have hlk:=HL.out k;have HST:=jx (ahz wr w1.heap.size u3 (MK k) hown jb jb);go_wp2_with fail;refine HST.out.mono ?_;rintro e w2 ⟨rfl,l2,hl2,hm2,ho2,hb2,hs2⟩;have HCP:=jx (Xb w2 w1.heap.size u3 l2 ho2 jb);have HB2:=jx (HBR.out.trans hb2);have HM2:=jx hm2;have HS2:=jx hs2;clear ho2 hb2 HST hm2 hown hbel hs2;go_wp2_with fail;refine HCP.out.mono ?_;rintro e w3 ⟨v3,l3,rfl,hl3,hm3,ho3,hb3,hc3,hn3⟩;have HO3:=jx ho3;have HM3:=jx hm3;have HB3:=jx (HB2.out.trans hb3);have HC3:=jx hc3;have HN3:=jx hn3;clear ho3 hm3 hb3 hc3 hn3;go_wp2;go_ret;exact⟨_,l3,rfl,jb,λc=>by rw[HM3.out,HM2.out,HM.out],HO3.out.mono jb,chain HB.out HB3.out jp,by rw[HC3.out,HS2.out,HML.out],λh=>HN3.out (HNV.out (List.eq_nil_iff_forall_not_mem.mpr λx hx=>by have:=(HM3.out x).mpr ((HM2.out x).mpr hx);rw[h]at this;cases this))⟩
end Go.Proofs.Ins
namespace Go.Proofs.Xe
open Go.RowKit Go.Proofs.Ins
theorem Xd:∀l:List Int,ones l.length (λi=>B.int .i64 (ix l i))=l.map (B.int .i64)
 |[]=>rfl
 |x::l=>by show [B.int .i64 x]++bH l.length (λi=>[B.int .i64 (ix l i)])=_;have:=Xd l;unfold ones at this;rw[this];rfl
theorem Xf(φ:Ph):∀l:List Int,kN φ (l.map (B.int .i64)) (l.map (Value.int .i64))
 |[]=>trivial
 |_::l=>⟨rfl,Xf φ l⟩
def ahB(l:List Int)(σ:St):Option (V×St):=if l.length=0 then some (.c .aY,σ)else some (.c (.sl σ.aj 0 l.length .opn),⟨hset σ.h σ.aj ⟨ones l.length (λi=>.int .i64 (ix l i)),some (1,3)⟩,σ.aj+1⟩)
def abP{φ:Ph}:∀{n:Nat}{G:Nat->List B}{F:Nat->List Value},(∀i,i<n->kN φ (G i) (F i))->kN φ (bH n G) ((List.range n).flatMap F)
 |0,_,_,_=>trivial
 |n+1,G,F,h=>by rw[List.range_succ_eq_map,ga,it];exact kN.append (h 0 jb) (abP λi hi=>h (i+1) jb)
def ahC(l:List Au)(σ:St):Option (V×St):=if l.length=0 then some (.c .aY,σ)else some (.c (.sl σ.aj 0 l.length .opn),⟨hset σ.h σ.aj ⟨bH l.length λi=>BJ (ix l i),some (5,97)⟩,σ.aj+1⟩)
noncomputable section
open Classical in
def ahD(args:List V)(σ:St):Option (V×St):=match args with
 |[.agg [v]]=>if h:∃a,dZ (λ_=>True) σ.h v a/\a.length<=1000000/\a.flatten.length<=1000000 then ahB (wH (Classical.choose h)) σ else none
 |_=>none
open Classical in
def ahE(args:List V)(σ:St):Option (V×St):=match args with
 |[.c v]=>if h:∃a,dZ (λ_=>True) σ.h v a/\a.length<=1000000/\a.flatten.length<=1000000 then ahC (Classical.choose h).flatten σ else none
 |_=>none
def ahF(f:Nat)(args:List V)(σ:St):Option (V×St):=
 if f=133 then ahE args σ
 else if f=91 then ahD args σ
 else none
end
def ami{p:Nat->Prop}{σ:St}{v:B}{a:iy}(ha:dZ p σ.h v a)(h1:a.length<=1000000)(h2:a.flatten.length<=1000000):ahD [.agg [v]] σ=ahB (wH a) σ:=by
 have h:∃a,dZ (λ_=>True) σ.h v a/\a.length<=1000000/\a.flatten.length<=1000000:=⟨a,ha.keep (λ_ _=>rfl) λ_ _=>trivial,h1,h2⟩
 unfold ahD;dsimp only;rw[dif_pos h,(Classical.choose_spec h).1.uniq ha]
def ahG{args:List V}{σ σ':St}{v:V}(h:ahD args σ=some (v,σ')):∃t a,args=[.agg [t]]/\ahB (wH a) σ=some (v,σ')/\dZ (λ_=>True) σ.h t a/\a.length<=1000000/\a.flatten.length<=1000000:=by
 unfold ahD at h;split at h
 .next t=>
  split at h
  .grind
  .cases h
 .cases h
def amj{p:Nat->Prop}{σ:St}{v:B}{a:iy}(ha:dZ p σ.h v a)(h1:a.length<=1000000)(h2:a.flatten.length<=1000000):ahE [.c v] σ=ahC a.flatten σ:=by
 have h:∃a,dZ (λ_=>True) σ.h v a/\a.length<=1000000/\a.flatten.length<=1000000:=⟨a,ha.keep (λ_ _=>rfl) λ_ _=>trivial,h1,h2⟩
 unfold ahE;dsimp only;rw[dif_pos h,(Classical.choose_spec h).1.uniq ha]
def ahH{args:List V}{σ σ':St}{v:V}(h:ahE args σ=some (v,σ')):∃t a,args=[.c t]/\ahC a.flatten σ=some (v,σ')/\dZ (λ_=>True) σ.h t a/\a.length<=1000000/\a.flatten.length<=1000000:=by
 unfold ahE at h;split at h
 .next t=>
  split at h
  .grind
  .cases h
 .cases h
def abQ{φ:Ph}{bI:Array Value}{x:V}(h:G8 φ [x] bI.toList):∃u,bI= #[u]/\RV φ x u:=by
 obtain⟨l⟩:=bI;match l,h with
 |[u],h=>exact⟨u,rfl,h.1⟩
def amk(f:Nat)(args:List V)(σ:St)(v:V)(σ':St)(h:ahF f args σ=some (v,σ')):okF Tryz.prog f/\∀(N:Nat) (w0:World) (φ:Ph) (w:World) (bI:Array Value),Rel N w0 φ σ w->G8 φ args bI.toList->
  Calls Tryz.prog f bI w λe w'=>∃cv,e=.returned cv/\∃φ',Ext σ.aj φ φ'/\Rel N w0 φ' σ' w'/\RV φ' v cv/\σ.aj<=σ'.aj:=by
 unfold ahF at h
 split at h
 .next e=>
  subst e
  obtain⟨t,a,rfl,h3,h1,la,lf⟩:=ahH h
  refine⟨yS (by kernel_rfl),λN w0 φ w bI hR ha=>?_⟩
  obtain⟨u,rfl,hu⟩:=abQ ha
  refine(H9 (InW w) u a w (h1.un hR hu) jb lf).mono ?_
  rintro e w' ⟨v',rfl,ho,hb,hz⟩
  generalize a.flatten=l at*
  unfold ahC at h3
  split at h3
  .next h0=>
   cases h3
   exact⟨_,rfl,φ,Ext.refl _ _,hR.below hb,hz h0,jp⟩
  .next h0=>
   cases h3
   obtain⟨⟨-,h4⟩,-⟩:=ho
   rcases h4 with⟨-,h4⟩|⟨c,cap,cur,rfl,hc,hg,hnc,hm,hs,hx⟩
   .omega
   .have hN:σ.new ⟨bH l.length λi=>BJ (ix l i),some (5,97)⟩=some (σ.aj,⟨hset σ.h σ.aj ⟨bH l.length λi=>BJ (ix l i),some (5,97)⟩,σ.aj+1⟩):=jT _ _
    have hol:(bH l.length λi=>BJ (ix l i)).length=l.length*5:=qQ λ_=>rfl
    have hcl:c<w'.heap.size:=(eV.mp hg).1
    refine⟨_,rfl,_,wY φ σ.aj (c,cap),(hR.below hb).new hN (w':=w') ⟨rfl,rfl,rfl,jp,λ_ _ _=>rfl⟩ (aw hR.size hc) hcl (λi p hi _ e=>?_) (.inl ⟨D7 jj,cur,97,hg,?_,?_,λe t he=>?_⟩),.inl ⟨(c,cap),cap,gX _ _ _,rfl,hnc,?_,rfl,rfl⟩,by simp⟩
    .have:=hR.lo i p hi
     omega
    .show kN φ (bH l.length λi=>BJ (ix l i)) (cur.toList.take (bH l.length λi=>BJ (ix l i)).length)
     rw[hol,hx]
     exact abP λi _=>⟨rfl,rfl,rfl,rfl,rfl,trivial⟩
    .grind
    .grind
    grind[maxLen]
 .split at h
  .next e=>
   subst e
   obtain⟨t,a,rfl,h3,h1,la,lf⟩:=ahG h
   refine⟨yS (by kernel_rfl),λN w0 φ w bI hR ha=>?_⟩
   obtain⟨u,rfl,hu⟩:=abQ ha
   obtain⟨r,rfl,hr⟩:=hu
   obtain⟨rl⟩:=r
   match rl,hr with
   |[tv],⟨ht,_⟩=>
    refine(Xc (InW w) tv a w (h1.un hR ht) jb lf).mono ?_
    rintro e w' ⟨v',l,rfl,-,-,ho,hb,hl,hn⟩
    rw[<-hl]at h3
    unfold ahB at h3
    split at h3
    .next h0=>
     cases h3
     exact⟨_,rfl,φ,Ext.refl _ _,hR.below hb,hn (fj h0),jp⟩
    .next h0=>
     cases h3
     obtain⟨⟨-,h4⟩,-⟩:=ho
     rcases h4 with⟨-,h4⟩|⟨c,cap,cur,rfl,hc,hg,hnc,hm,hs,hx⟩
     .omega
     .have hN:σ.new ⟨ones l.length (λi=>.int .i64 (ix l i)),some (1,3)⟩=some (σ.aj,⟨hset σ.h σ.aj ⟨ones l.length (λi=>.int .i64 (ix l i)),some (1,3)⟩,σ.aj+1⟩):=jT _ _
      rw[abO,fR]at hx
      have hol:(ones l.length λi=>B.int .i64 (ix l i)).length=l.length:=by grind[NJ]
      have hcl:c<w'.heap.size:=(eV.mp hg).1
      refine⟨_,rfl,_,wY φ σ.aj (c,cap),(hR.below hb).new hN (w':=w') ⟨rfl,rfl,rfl,jp,λ_ _ _=>rfl⟩ (aw hR.size hc) hcl (λi p hi _ e=>?_) (.inl ⟨D7 jj,cur,3,hg,?_,?_,λe t he=>?_⟩),.inl ⟨(c,cap),cap,gX _ _ _,rfl,hnc,?_,rfl,rfl⟩,by simp⟩
      .have:=hR.lo i p hi
       omega
      .grind[Xd,Xf]
      .grind
      .grind
      grind[maxLen]
  .cases h
def aml(f:Nat)(args:List V)(σ:St):Option (V×St):=ahF f args σ
def amm(f:Nat)(args:List V)(σ:St)(v:V)(σ':St)(h:aml f args σ=some (v,σ')):okF Tryz.prog f/\∀(N:Nat) (w0:World) (φ:Ph) (w:World) (bI:Array Value),Rel N w0 φ σ w->G8 φ args bI.toList->
  Calls Tryz.prog f bI w λe w'=>∃cv,e=.returned cv/\∃φ',Ext σ.aj φ φ'/\Rel N w0 φ' σ' w'/\RV φ' v cv/\σ.aj<=σ'.aj:=amk f args σ v σ' h
abbrev amn:List Nat:=[76
 ,39
 ,81
 ,40
 ,83
 ,82
 ,84
 ,85
 ,49
 ,48
 ,26
 ,41
 ,75
 ,37
 ,45
 ,151
 ,46
 ,23
 ,38
 ,17
 ,98
 ,44
 ,22
 ,60
 ,117
 ,115
 ,16
 ,136
 ,59
 ]
def aex:Nat->List V->St->Option (V×St):=(Eb amn).VU
def abR{f:Nat}(h:amn.contains f=false)(args:List V)(σ:St):aex f args σ=none:=by unfold aex Eb;dsimp only;rw[h];rfl
class auZ (E:Env):Prop where
 o:∀f args σ r,aex f args σ=some r->E.VU f args σ=some r
instance {E:Env}{f:Nat} [h:auZ E] [m:Mm f amn]:jR E f:=⟨λargs v σ hv=>h.o f args σ _ (by unfold aex;exact jR.o (E:=Eb amn) args v σ hv)⟩
def amo(f:Nat):Prop:=okF Tryz.prog f/\∀w,Calls Tryz.prog f #[] w λe w'=>e=.returned (.bool true)/\Below w.heap.size w w'
def awN:List Nat:=[
 1000000]
noncomputable section
open Classical in
def au0(f:Nat)(args:List V)(σ:St):Option (V×St):=bif awN.contains f then(match args with|[]=>if amo f then some (.c (.bool true),σ)else none|_=>none)else none
def Xg(f:Nat)(args:List V)(σ:St):Option (V×St):=match aex f args σ with
 |some r=>some r
 |none=>match aml f args σ with
  |some r=>some r
  |none=>au0 f args σ
end
class Z4 (E:Env):Prop where
 a:∀f args σ r,Xg f args σ=some r->E.VU f args σ=some r
instance {E:Env} [h:Z4 E]:auZ E:=⟨λf args σ r hv=>h.a f args σ r (by unfold Xg;rw[hv])⟩
def QO{E:Env}[hE:Z4 E]{f:Nat}{args:List V}{v:V}{σ σ2:St}{K:V->St->Prop}(h:Xg f args σ=some (v,σ2)):aC E f args σ K=K v σ2:=by
 refine propext ⟨λ⟨n,v',σ',h1,h2⟩=>?_,λhk=>WC (hE.a f args σ _ h) hk⟩;have h3:iW E 1 f args σ=some (v,σ2):=by rw[iW];unfold G7;rw[hE.a f args σ _ h]
 have a:=nR (show n<=n+1 by omega) f args σ _ h1;have b:=nR (show 1<=n+1 by omega) f args σ _ h3;rw[a]at b;cases b;exact h2
section
variable {E:Env} [Z4 E] {σ:St} {K:V→St→Prop}
end
end Go.Proofs.Xe
namespace Go.Proofs.Xe
open Go.Proofs
set_option maxRecDepth 1000000
set_option maxHeartbeats 8000000
def EN:Env:=⟨tF Tryz.prog,Xg⟩
instance ayY:Z4 EN:=⟨λ_ _ _ _ h=>h⟩
structure jd(k:Nat) where
 a:AF
 g:tG Tryz.prog k=some a:=by conv=>(lhs;reduce;simp only[aoB])
 i:Wq Tryz.prog k a=true:=by kernel_rfl
 o:∀args σ,EN.VU k args σ=none:=by exact λ_ _=>rfl
def jd.h{k:Nat}(b:jd k):EN.fns k=some b.a:=aoA b.g b.i
def lX:jd 5:=.mk _
def FW:jd 12:=.mk _
def sU:jd 13:=.mk _
def sV:jd 14:=.mk _
def xB:jd 15:=.mk _
def CY:jd 18:=.mk _
def akB:jd 19:=.mk _
def aoJ:jd 20:=.mk _
def CZ:jd 21:=.mk _
def xC:jd 24:=.mk _
def FX:jd 28:=.mk _
def NQ:jd 29:=.mk _
def qV:jd 30:=.mk _
def sW:jd 31:=.mk _
def jY:jd 32:=.mk _
def kX:jd 33:=.mk _
def sZ:jd 34:=.mk _
def kY:jd 35:=.mk _
def jm:jd 36:=.mk _
def oh:jd 42:=.mk _
def C9:jd 43:=.mk _
def Jm:jd 50:=.mk _
def FY:jd 51:=.mk _
def qW:jd 52:=.mk _
def ni:jd 53:=.mk _
def uZ:jd 54:=.mk _
def iK:jd 55:=.mk _
def jr:jd 56:=.mk _
def jZ:jd 57:=.mk _
def ku:jd 58:=.mk _
def oI:jd 61:=.mk _
def vg:jd 62:=.mk _
def lY:jd 63:=.mk _
def jI:jd 64:=.mk _
def tq:jd 65:=.mk _
def kC:jd 66:=.mk _
def qX:jd 67:=.mk _
def lZ:jd 68:=.mk _
def l7:jd 69:=.mk _
def vk:jd 70:=.mk _
def jJ:jd 71:=.mk _
def tu:jd 72:=.mk _
def fE:jd 73:=.mk _
def pX:jd 74:=.mk _
def jv:jd 90:=.mk _
def pY:jd 92:=.mk _
def nT:jd 93:=.mk _
def vw:jd 94:=.mk _
def kZ:jd 95:=.mk _
def l9:jd 96:=.mk _
def mF:jd 97:=.mk _
def gY:jd 99:=.mk _
def jK:jd 100:=.mk _
def qY:jd 101:=.mk _
def vC:jd 102:=.mk _
def qZ:jd 103:=.mk _
def kD:jd 104:=.mk _
def jL:jd 105:=.mk _
def iP:jd 106:=.mk _
def oJ:jd 107:=.mk _
def tH:jd 108:=.mk _
def vF:jd 109:=.mk _
def xE:jd 110:=.mk _
def ru:jd 111:=.mk _
def eX:jd 112:=.mk _
def xG:jd 113:=.mk _
def jh:jd 114:=.mk _
def lu:jd 116:=.mk _
def gI:jd 118:=.mk _
def eH:jd 131:=.mk _
def iY:jd 132:=.mk _
def kF:jd 137:=.mk _
def fO:jd 138:=.mk _
def kG:jd 139:=.mk _
def kH:jd 140:=.mk _
def kJ:jd 141:=.mk _
def ji:jd 142:=.mk _
def vG:jd 143:=.mk _
def jw:jd 144:=.mk _
def vH:jd 145:=.mk _
def xH:jd 146:=.mk _
def rE:jd 147:=.mk _
def dJ:jd 148:=.mk _
def tJ:jd 149:=.mk _
def qc:jd 150:=.mk _
def lC:jd 152:=.mk _
def iL:jd 153:=.mk _
def fP:jd 171:=.mk _
def xI:jd 175:=.mk _
def vI:jd 176:=.mk _
def lH:jd 177:=.mk _
def nU:jd 178:=.mk _
def mG:jd 179:=.mk _
def mJ:jd 180:=.mk _
def nC:jd 181:=.mk _
def mM:jd 182:=.mk _
def xJ:jd 204:=.mk _
def gU:jd 205:=.mk _
def xK:jd 206:=.mk _
end Go.Proofs.Xe
end
