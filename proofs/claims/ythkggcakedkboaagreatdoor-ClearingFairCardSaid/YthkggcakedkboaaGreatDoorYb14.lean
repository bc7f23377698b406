import Derived.Test.YthkggcakedkboaaGreatDoorYb13
import Derived.Lib.OwnBridge
set_option linter.all false
set_option maxHeartbeats 8000000
noncomputable section
namespace Go.Proofs.Ins
open Go.RowKit
def CS{F:Nat->List Value}{sz:Nat}:∀(n:Nat),(∀i,i<n->(F i).length=sz)->((List.range n).flatMap F).length=n*sz
 |0,_=>by simp
 |n+1,h=>by rw[gh,cV,az,CS n (λi hi=>h i jb)];simp[h n jb,cB]
def cJ(l:List Int)(j:Nat):List Value:=[.int .i64 (l.getD j 0)]
def abP(l:List Int):(List.range l.length).flatMap (cJ l)=l.map (Value.int .i64):=by
 apply List.ext_getElem?;intro j;by_cases h:j<l.length
 .have:=yg (sz:=1) (F:=cJ l) l.length (λi _=>rfl) j 0 h jb;grind[cJ]
 .rw[List.getElem?_eq_none,List.getElem?_eq_none]
  .simpa using h
  .rw[CS (sz:=1) l.length (λi _=>rfl)];omega
def amk(l:List Int)(x:Int)(j:Nat)(hj:j<l.length+1):(if j<l.length then cJ l j else [.int .i64 x])=cJ (l++[x]) j:=by grind[cJ]
def H7{w:World}{base:Nat}{T:TypeId}{v:Value}{l:List Int}:lM w base T 1 v l.length (cJ l)↔w.ownsRow base T 1 v l.length (l.map (Value.int .i64)):=by unfold lM;rw[abP];exact⟨λh=>h.1,λh=>⟨h,λ_ _=>rfl⟩⟩
def below_grow{B:Nat}{w0 w:World}{os:Array Obj}(h:Below B w0 w)(hB:B<=w.heap.size):Below B w0 (Sort.grow w os):=
 ⟨h.os,h.tape,h.output,by have:=h.size;grind[Sort.grow],λk hk=>by rw[<-h.block k hk];grind[Sort.heap_grow_old]⟩
def ownsRow_grow{w:World}{base:Nat}{T:TypeId}{v:Value}{n:Nat}{xs:List Value}{os:Array Obj}(h:w.ownsRow base T 1 v n xs):(Sort.grow w os).ownsRow base T 1 v n xs:=by
 obtain⟨h1,h2⟩:=h;refine⟨h1,?_⟩;rcases h2 with h2|⟨g,cap,cur,hv,hb,hg,r⟩
 .grind
 .exact .inr ⟨g,cap,cur,hv,hb,by grind[Sort.heap_grow_old],r⟩
def Xb{w:World}{base:Nat}{T:TypeId}{sz n:Nat}{F:Nat->List Value}(h:lM w base T sz (.slice none 0 0) n F):n=0:=by obtain⟨⟨-,h1⟩,-⟩:=h;grind
def ahB(w:World)(base:Nat)(v:Value)(l:List Int)(h:lM w base 3 1 v l.length (cJ l))(hb:base<=w.heap.size)(hl:l.length<4611686018427387904):
  Calls Tryz.prog 134 #[v] w λe w'=>e=.returned (.tuple #[])/\∃l':List Int,l'.length=l.length/\(∀x,x∈l'↔x∈l)/\lM w' base 3 1 v l'.length (cJ l')/\Below base w w'/\l'=l.mergeSort λx y=>decide (x<=y):=by
 by_cases hv:v=.slice none 0 0
 .subst hv
  refine(Tryz.slices_Sort_int_none none 0 w).mono λe w' ⟨he,hw⟩=>⟨he,l,rfl,λ_=>Iff.rfl,by grind,by grind[Below.refl],by rw[fS (Xb h)];simp⟩
 .have hr:=H7.mp h
  obtain⟨g,cap,rfl,h1,h2,h3,h4,h5,h6⟩:=Lib.holds_of_ownsRow hr hv
  refine(Tryz.slices_Sort_int g 0 cap l w h6 h2 hl).mono ?_
  rintro e w' ⟨he,n,os,rfl⟩
  refine⟨he,l.mergeSort λx y=>decide (x<=y),by simp,λx=>List.mem_mergeSort,H7.mpr ?_,below_grow (Lib.below_putRow (Below.refl base w) h1) (by simp_all),rfl⟩
  refine ownsRow_grow ?_
  have:=Lib.ownsRow_putRow (q:=n) (k:=l.length) (ys:=l.mergeSort λx y=>decide (x<=y)) hr kc jp
  grind[List.length_mergeSort]
def Xc(w:World)(base:Nat)(v:Value)(l:List Int)(h:lM w base 3 1 v l.length (cJ l))(hl:l.length<=9223372036854775807):
  Calls Tryz.prog 135 #[v] w λe w'=>∃v' l',e=.returned v'/\l'.length<=l.length/\(∀x,x∈l'↔x∈l)/\lM w' base 3 1 v' l'.length (cJ l')/\Below base w w'/\l'=Lib.compact l/\(v=.slice none 0 0->v'=.slice none 0 0):=by
 by_cases hv:v=.slice none 0 0
 .subst hv
  refine(Tryz.slices_Compact_int_empty none 0 w).mono λe w' ⟨he,hw⟩=>⟨_,l,he,jp,λ_=>Iff.rfl,by grind,by grind[Below.refl],by rw[fS (Xb h)];rfl,λh=>h⟩
 .have hr:=H7.mp h
  obtain⟨g,cap,rfl,h1,h2,h3,h4,h5,h6⟩:=Lib.holds_of_ownsRow hr hv
  refine(Tryz.slices_Compact_int g 0 cap l w h6 hl h3).mono ?_
  rintro e w' ⟨he,q,rfl⟩
  have hle:=Lib.compact_length_le l
  refine⟨_,Lib.compact l,he,hle,λx=>mem_compact,H7.mpr ?_,Lib.below_putRow (Below.refl base w) h1,rfl,λh=>absurd h hv⟩
  grind[Lib.ownsRow_putRow,List.take_left]
def mks(l:List Ai)(k:Nat):List Int:=((l.take k).map λx=>x.k).filter λx=>x !=-1
def ahC(l:List Ai):mks l 0=[]:=by rfl
def aml{l:List Ai}{k:Nat}(h:k<l.length)(h2:(ix l k).k≠-1):mks l (k+1)=mks l k++[(ix l k).k]:=by grind[mks,bF]
def arp{l:List Ai}{k:Nat}(h:k<l.length)(h2:(ix l k).k=-1):mks l (k+1)=mks l k:=by grind[mks,bF]
def amm(l:List Ai)(k:Nat):(mks l k).length<=k:=by grind[Go.Proofs.Ins.mks]
def amn{a:ig}{c:Int}:c∈mks a.flatten a.flatten.length↔c≠-1/\NK a c=true:=by grind[mks,NK,memT]
def auW(w:World)(T:TypeId)(a:ig)(e:Ending)(w':World):Prop:=
 ∃v l,e=.returned v/\l.length<=a.flatten.length/\(∀c,c∈l↔c≠-1/\NK a c=true)/\lM w' w.heap.size T 1 v l.length (cJ l)/\Below w.heap.size w w'/\l=vX a/\(l=[]->v=.slice none 0 0)
set_option maxRecDepth 100000 in
def Xd(p:Nat->Prop)(v:Value)(a:ig)(w:World)(hA:wV w p v a)(la:a.length<=140737488351232)(lf:a.flatten.length<=1000000):
  Calls Tryz.prog 91 #[.agg #[v]] w (auW w 3 a):=by
 have HC:=jx (λw' (h:wV w' p v a)=>Xa p v a w' h la lf)
 have HA:=jx hA
 have HM:=jx (λc=>amn (a:=a) (c:=c))
 have HY:=jx (λk h h2=>aml (l:=a.flatten) (k:=k) h h2)
 have HN:=jx (λk h h2=>arp (l:=a.flatten) (k:=k) h h2)
 have HL:=jx (amm a.flatten)
 have H0:=jx (ahC a.flatten)
 have HML:=jx (show vX a=Lib.compact ((mks a.flatten a.flatten.length).mergeSort λx y=>decide (x<=y)) by unfold vX mks;rw[ce])
 unfold auW
 clear hA
 generalize hmm:mks a.flatten=MK at*
 generalize hfl:a.flatten=fl at*
 clear hmm hfl
 generalize hN:fl.length=N at*
 go_enter Tryz.func91,Tryz.ntmps91
 go_wp2_with fail
 refine(HC.out _ (HA.out.on ((Below.refl _ _).alloc jp _))).mono ?_
 rintro e w1 ⟨v1,rfl,ho1,hb1⟩
 obtain⟨-,HB⟩:=apu hb1
 have HB:=jx HB
 have hz1:=HB.out.size
 have hsl:=ho1.sl
 obtain⟨a1,cap1,rfl,-,-⟩:=hsl.form
 have HSL:=jx hsl
 clear ho1 hb1 hsl HC HA
 go_wp2_with fail
 go_loopw [3,10] (λv i wr=>∃k:Nat,i=.int .i64 k/\k<=N/\lM wr w1.heap.size 3 1 v (MK k).length (cJ (MK k))/\Below w1.heap.size w1 wr/\Hid (MK k=[]->v=.slice none 0 0)) (λ_ i _=>N-(intOf i).toNat)
 case atStart=>exact⟨0,rfl,jb,by rw[H0.out];exact lM.nil _ _ _ _ _,Below.refl _ _,jx λ_=>rfl⟩
 case round=>
  obtain⟨k,rfl,hk,hown,hbel,HNV⟩:=hrel;have HO:=jx hown;have HBR:=jx hbel;have hsz:=hbel.size;by_cases hlt:k<N
  .obtain⟨b,off,rfl,-,-,-⟩:=HSL.out.get jb;have e0:=HSL.out.cellAt rfl hbel (i:=k) (j:=0) hlt jb;have e1:wr.cell? ⟨b,off+k*5+1,none⟩=some (Value.bool (ix fl k).b):=HSL.out.cellAt rfl hbel (i:=k) (j:=1) hlt jb;have e2:wr.cell? ⟨b,off+k*5+2,none⟩=some (Value.bool (ix fl k).a.n):=HSL.out.cellAt rfl hbel (i:=k) (j:=2) hlt jb;have e3:wr.cell? ⟨b,off+k*5+3,none⟩=some (Value.string (ix fl k).a.s):=HSL.out.cellAt rfl hbel (i:=k) (j:=3) hlt jb;have e4:wr.cell? ⟨b,off+k*5+4,none⟩=some (Value.string (ix fl k).a.d):=HSL.out.cellAt rfl hbel (i:=k) (j:=4) hlt jb;rw[cE]at e0;have e0':wr.cell? ⟨b,off+k*5,none⟩=some (Value.int .i64 (ix fl k).k):=e0;have HYK:=jx (HY.out k jb);have HNK:=jx (HN.out k jb);have hlk:=HL.out k;have i1:(0:Int)<=(k:Int):=jb;have i2:(k:Int)<(N:Int):=jb;clear e0 hown hbel HY HN HL HM;generalize auX:MK (k+1)=M1 at*;have HM1:=jx auX;generalize axt:MK k=M0 at*;clear auX axt;generalize (ix fl k).k=x at*;generalize (ix fl k).b=pb at*;generalize (ix fl k).a.n=an at*;generalize (ix fl k).a.s=as' at*;generalize (ix fl k).a.d=ad at*;by_cases hx:x=-1
   .have h1:(x !=-1)=false:=by simp[hx]
    have HX:=jx (HNK.out hx);clear HYK HNK;go_wp2;go_roundw
    case rel=>exact⟨k+1,by go_num,jb,by rw[HM1.out,HX.out];exact HO.out.below ((Below.refl _ _).alloc jp _) jp,HBR.out.alloc jb _,jx λh=>HNV.out (by rwa[HM1.out,HX.out]at h)⟩
    case measure=>simp[intOf];omega
   .have h1:(x !=-1)=true:=by simp[hx]
    have HX:=jx (HYK.out hx);have HO2:=jx (HO.out.below ((Below.refl wr.heap.size wr).alloc jp (.cells #[.int .i64 x,.bool pb,.bool an,.string as',.string ad] 97)) jp);have hz2:(wr.alloc (.cells #[.int .i64 x,.bool pb,.bool an,.string as',.string ad] 97)).heap.size=wr.heap.size+1:=by simp
    clear HYK HNK;go_wp2_with (refine MC _ _ 127 3 1 8 w1.heap.size _ _ _ [.int .i64 x] (by rfl) (by rfl) Tryz.underlying127 akQ jb (by rfl) (by rfl) (by simp[Value.oneCell']) (by rw[World.size_alloc];rfl) HO2.out jb jb (by rw[World.size_alloc];omega) ?_;intro v9 w9 ho9 hb9;have HO9:=jx ho9;have HB9:=jx hb9;clear ho9 hb9)
    go_roundw
    case rel=>
     refine⟨k+1,by go_num,jb,?_,(HBR.out.alloc jb _).trans HB9.out,jx λh=>by rw[HM1.out,HX.out]at h;simp at h⟩;rw[HM1.out,HX.out,az];exact HO9.out.congr λj hj=>amk _ _ j hj
    case measure=>simp[intOf];omega
  .obtain rfl:k=N:=jb;have hnl:decide ((k:Int)<(k:Int))=false:=by simp
   have hlk:=HL.out k;have HST:=jx (ahB wr w1.heap.size u3 (MK k) hown jb jb);go_wp2_with fail;refine HST.out.mono ?_;rintro e w2 ⟨rfl,l2,hl2,hm2,ho2,hb2,hs2⟩;have HCP:=jx (Xc w2 w1.heap.size u3 l2 ho2 jb);have HB2:=jx (HBR.out.trans hb2);have HM2:=jx hm2;have HS2:=jx hs2;clear ho2 hb2 HST hm2 hown hbel hs2;go_wp2_with fail;refine HCP.out.mono ?_;rintro e w3 ⟨v3,l3,rfl,hl3,hm3,ho3,hb3,hc3,hn3⟩;have HO3:=jx ho3;have HM3:=jx hm3;have HB3:=jx (HB2.out.trans hb3);have HC3:=jx hc3;have HN3:=jx hn3;clear ho3 hm3 hb3 hc3 hn3;go_wp2;go_ret;exact⟨_,l3,rfl,jb,λc=>by rw[HM3.out,HM2.out,HM.out],HO3.out.mono jb,chain HB.out HB3.out jp,by rw[HC3.out,HS2.out,HML.out],λh=>HN3.out (HNV.out (List.eq_nil_iff_forall_not_mem.mpr λx hx=>by have:=(HM3.out x).mpr ((HM2.out x).mpr hx);rw[h]at this;cases this))⟩
end Go.Proofs.Ins
namespace Go.Proofs.Xe
open Go.RowKit Go.Proofs.Ins
theorem Xf:∀l:List Int,ones l.length (λi=>B.int .i64 (ix l i))=l.map (B.int .i64)
 |[]=>rfl
 |x::l=>by show [B.int .i64 x]++bP l.length (λi=>[B.int .i64 (ix l i)])=_;have:=Xf l;unfold ones at this;rw[this];rfl
theorem Xg(φ:Ph):∀l:List Int,kL φ (l.map (B.int .i64)) (l.map (Value.int .i64))
 |[]=>trivial
 |_::l=>⟨rfl,Xg φ l⟩
def ahD(l:List Int)(σ:St):Option (V×St):=if l.length=0 then some (.c .aX,σ)else some (.c (.sl σ.aj 0 l.length .opn),⟨hset σ.h σ.aj ⟨ones l.length (λi=>.int .i64 (ix l i)),some (1,3)⟩,σ.aj+1⟩)
def abQ{φ:Ph}:∀{n:Nat}{G:Nat->List B}{F:Nat->List Value},(∀i,i<n->kL φ (G i) (F i))->kL φ (bP n G) ((List.range n).flatMap F)
 |0,_,_,_=>trivial
 |n+1,G,F,h=>by rw[List.range_succ_eq_map,eL,jn];exact kL.append (h 0 jb) (abQ λi hi=>h (i+1) jb)
def ahE(l:List Ai)(σ:St):Option (V×St):=if l.length=0 then some (.c .aX,σ)else some (.c (.sl σ.aj 0 l.length .opn),⟨hset σ.h σ.aj ⟨bP l.length λi=>Bz (ix l i),some (5,97)⟩,σ.aj+1⟩)
noncomputable section
open Classical in
def ahF(args:List V)(σ:St):Option (V×St):=match args with
 |[.agg [v]]=>if h:∃a,dZ (λ_=>True) σ.h v a/\a.length<=1000000/\a.flatten.length<=1000000 then ahD (vX (Classical.choose h)) σ else none
 |_=>none
open Classical in
def ahG(args:List V)(σ:St):Option (V×St):=match args with
 |[.c v]=>if h:∃a,dZ (λ_=>True) σ.h v a/\a.length<=1000000/\a.flatten.length<=1000000 then ahE (Classical.choose h).flatten σ else none
 |_=>none
def ahH(f:Nat)(args:List V)(σ:St):Option (V×St):=
 if f=133 then ahG args σ
 else if f=91 then ahF args σ
 else none
end
def amo{p:Nat->Prop}{σ:St}{v:B}{a:ig}(ha:dZ p σ.h v a)(h1:a.length<=1000000)(h2:a.flatten.length<=1000000):ahF [.agg [v]] σ=ahD (vX a) σ:=by
 have h:∃a,dZ (λ_=>True) σ.h v a/\a.length<=1000000/\a.flatten.length<=1000000:=⟨a,ha.keep (λ_ _=>rfl) λ_ _=>trivial,h1,h2⟩
 unfold ahF;dsimp only;rw[dif_pos h,(Classical.choose_spec h).1.uniq ha]
def ahI{args:List V}{σ σ':St}{v:V}(h:ahF args σ=some (v,σ')):∃t a,args=[.agg [t]]/\ahD (vX a) σ=some (v,σ')/\dZ (λ_=>True) σ.h t a/\a.length<=1000000/\a.flatten.length<=1000000:=by
 unfold ahF at h;split at h
 .next t=>
  split at h
  .grind
  .cases h
 .cases h
def amq{p:Nat->Prop}{σ:St}{v:B}{a:ig}(ha:dZ p σ.h v a)(h1:a.length<=1000000)(h2:a.flatten.length<=1000000):ahG [.c v] σ=ahE a.flatten σ:=by
 have h:∃a,dZ (λ_=>True) σ.h v a/\a.length<=1000000/\a.flatten.length<=1000000:=⟨a,ha.keep (λ_ _=>rfl) λ_ _=>trivial,h1,h2⟩
 unfold ahG;dsimp only;rw[dif_pos h,(Classical.choose_spec h).1.uniq ha]
def ahJ{args:List V}{σ σ':St}{v:V}(h:ahG args σ=some (v,σ')):∃t a,args=[.c t]/\ahE a.flatten σ=some (v,σ')/\dZ (λ_=>True) σ.h t a/\a.length<=1000000/\a.flatten.length<=1000000:=by
 unfold ahG at h;split at h
 .next t=>
  split at h
  .grind
  .cases h
 .cases h
def abR{φ:Ph}{bK:Array Value}{x:V}(h:GV φ [x] bK.toList):∃u,bK= #[u]/\RV φ x u:=by
 obtain⟨l⟩:=bK;match l,h with
 |[u],h=>exact⟨u,rfl,h.1⟩
def amr(f:Nat)(args:List V)(σ:St)(v:V)(σ':St)(h:ahH f args σ=some (v,σ')):okF Tryz.prog f/\∀(N:Nat) (w0:World) (φ:Ph) (w:World) (bK:Array Value),Rel N w0 φ σ w->GV φ args bK.toList->
  Calls Tryz.prog f bK w λe w'=>∃cv,e=.returned cv/\∃φ',Ext σ.aj φ φ'/\Rel N w0 φ' σ' w'/\RV φ' v cv/\σ.aj<=σ'.aj:=by
 unfold ahH at h
 split at h
 .next e=>
  subst e
  obtain⟨t,a,rfl,h3,h1,la,lf⟩:=ahJ h
  refine⟨yP (by kernel_rfl),λN w0 φ w bK hR ha=>?_⟩
  obtain⟨u,rfl,hu⟩:=abR ha
  refine(H6 (InW w) u a w (h1.un hR hu) jb lf).mono ?_
  rintro e w' ⟨v',rfl,ho,hb,hz⟩
  generalize a.flatten=l at*
  unfold ahE at h3
  split at h3
  .next h0=>
   cases h3
   exact⟨_,rfl,φ,Ext.refl _ _,hR.below hb,hz h0,jp⟩
  .next h0=>
   cases h3
   obtain⟨⟨-,h4⟩,-⟩:=ho
   rcases h4 with⟨-,h4⟩|⟨c,cap,cur,rfl,hc,hg,hnc,hm,hs,hx⟩
   .omega
   .have hN:σ.new ⟨bP l.length λi=>Bz (ix l i),some (5,97)⟩=some (σ.aj,⟨hset σ.h σ.aj ⟨bP l.length λi=>Bz (ix l i),some (5,97)⟩,σ.aj+1⟩):=jM _ _
    have hol:(bP l.length λi=>Bz (ix l i)).length=l.length*5:=qL λ_=>rfl
    have hcl:c<w'.heap.size:=(fu.mp hg).1
    refine⟨_,rfl,_,wO φ σ.aj (c,cap),(hR.below hb).new hN (w':=w') ⟨rfl,rfl,rfl,jp,λ_ _ _=>rfl⟩ (av hR.size hc) hcl (λi p hi _ e=>?_) (.inl ⟨DV jj,cur,97,hg,?_,?_,λe t he=>?_⟩),.inl ⟨(c,cap),cap,gW _ _ _,rfl,hnc,?_,rfl,rfl⟩,by simp⟩
    .have:=hR.lo i p hi
     omega
    .show kL φ (bP l.length λi=>Bz (ix l i)) (cur.toList.take (bP l.length λi=>Bz (ix l i)).length)
     rw[hol,hx]
     exact abQ λi _=>⟨rfl,rfl,rfl,rfl,rfl,trivial⟩
    .grind
    .grind
    grind[maxLen]
 .split at h
  .next e=>
   subst e
   obtain⟨t,a,rfl,h3,h1,la,lf⟩:=ahI h
   refine⟨yP (by kernel_rfl),λN w0 φ w bK hR ha=>?_⟩
   obtain⟨u,rfl,hu⟩:=abR ha
   obtain⟨r,rfl,hr⟩:=hu
   obtain⟨rl⟩:=r
   match rl,hr with
   |[tv],⟨ht,_⟩=>
    refine(Xd (InW w) tv a w (h1.un hR ht) jb lf).mono ?_
    rintro e w' ⟨v',l,rfl,-,-,ho,hb,hl,hn⟩
    rw[<-hl]at h3
    unfold ahD at h3
    split at h3
    .next h0=>
     cases h3
     exact⟨_,rfl,φ,Ext.refl _ _,hR.below hb,hn (fS h0),jp⟩
    .next h0=>
     cases h3
     obtain⟨⟨-,h4⟩,-⟩:=ho
     rcases h4 with⟨-,h4⟩|⟨c,cap,cur,rfl,hc,hg,hnc,hm,hs,hx⟩
     .omega
     .have hN:σ.new ⟨ones l.length (λi=>.int .i64 (ix l i)),some (1,3)⟩=some (σ.aj,⟨hset σ.h σ.aj ⟨ones l.length (λi=>.int .i64 (ix l i)),some (1,3)⟩,σ.aj+1⟩):=jM _ _
      rw[abP,gc]at hx
      have hol:(ones l.length λi=>B.int .i64 (ix l i)).length=l.length:=by grind[NI]
      have hcl:c<w'.heap.size:=(fu.mp hg).1
      refine⟨_,rfl,_,wO φ σ.aj (c,cap),(hR.below hb).new hN (w':=w') ⟨rfl,rfl,rfl,jp,λ_ _ _=>rfl⟩ (av hR.size hc) hcl (λi p hi _ e=>?_) (.inl ⟨DV jj,cur,3,hg,?_,?_,λe t he=>?_⟩),.inl ⟨(c,cap),cap,gW _ _ _,rfl,hnc,?_,rfl,rfl⟩,by simp⟩
      .have:=hR.lo i p hi
       omega
      .grind[Xf,Xg]
      .grind
      .grind
      grind[maxLen]
  .cases h
def ams(f:Nat)(args:List V)(σ:St):Option (V×St):=ahH f args σ
def amu(f:Nat)(args:List V)(σ:St)(v:V)(σ':St)(h:ams f args σ=some (v,σ')):okF Tryz.prog f/\∀(N:Nat) (w0:World) (φ:Ph) (w:World) (bK:Array Value),Rel N w0 φ σ w->GV φ args bK.toList->
  Calls Tryz.prog f bK w λe w'=>∃cv,e=.returned cv/\∃φ',Ext σ.aj φ φ'/\Rel N w0 φ' σ' w'/\RV φ' v cv/\σ.aj<=σ'.aj:=amr f args σ v σ' h
abbrev amv:List Nat:=[76
 ,39
 ,81
 ,40
 ,83
 ,82
 ,84
 ,85
 ,49
 ,48
 ,26
 ,41
 ,75
 ,37
 ,45
 ,151
 ,46
 ,23
 ,38
 ,17
 ,98
 ,44
 ,22
 ,60
 ,117
 ,115
 ,16
 ,136
 ,59
 ]
def aey:Nat->List V->St->Option (V×St):=(Eb amv).VW
def abS{f:Nat}(h:amv.contains f=false)(args:List V)(σ:St):aey f args σ=none:=by unfold aey Eb;dsimp only;rw[h];rfl
class auY (E:Env):Prop where
 o:∀f args σ r,aey f args σ=some r->E.VW f args σ=some r
instance {E:Env}{f:Nat} [h:auY E] [m:Mm f amv]:jK E f:=⟨λargs v σ hv=>h.o f args σ _ (by unfold aey;exact jK.o (E:=Eb amv) args v σ hv)⟩
def amw(f:Nat):Prop:=okF Tryz.prog f/\∀w,Calls Tryz.prog f #[] w λe w'=>e=.returned (.bool true)/\Below w.heap.size w w'
def awN:List Nat:=[
 1000000]
noncomputable section
open Classical in
def auZ(f:Nat)(args:List V)(σ:St):Option (V×St):=bif awN.contains f then(match args with|[]=>if amw f then some (.c (.bool true),σ)else none|_=>none)else none
def Xh(f:Nat)(args:List V)(σ:St):Option (V×St):=match aey f args σ with
 |some r=>some r
 |none=>match ams f args σ with
  |some r=>some r
  |none=>auZ f args σ
end
class Z7 (E:Env):Prop where
 a:∀f args σ r,Xh f args σ=some r->E.VW f args σ=some r
instance {E:Env} [h:Z7 E]:auY E:=⟨λf args σ r hv=>h.a f args σ r (by unfold Xh;rw[hv])⟩
def QS{E:Env}[hE:Z7 E]{f:Nat}{args:List V}{v:V}{σ σ2:St}{K:V->St->Prop}(h:Xh f args σ=some (v,σ2)):aC E f args σ K=K v σ2:=by
 refine propext ⟨λ⟨n,v',σ',h1,h2⟩=>?_,λhk=>WE (hE.a f args σ _ h) hk⟩;have h3:iR E 1 f args σ=some (v,σ2):=by rw[iR];unfold GU;rw[hE.a f args σ _ h]
 have a:=ni (show n<=n+1 by omega) f args σ _ h1;have b:=ni (show 1<=n+1 by omega) f args σ _ h3;rw[a]at b;cases b;exact h2
section
variable {E:Env} [Z7 E] {σ:St} {K:V→St→Prop}
end
end Go.Proofs.Xe
namespace Go.Proofs.Xe
open Go.Proofs
set_option maxRecDepth 1000000
set_option maxHeartbeats 8000000
def EN:Env:=⟨tF Tryz.prog,Xh⟩
instance azk:Z7 EN:=⟨λ_ _ _ _ h=>h⟩
structure jy(k:Nat) where
 a:AF
 g:tG Tryz.prog k=some a:=by conv=>(lhs;reduce;simp only[aoD])
 i:Ws Tryz.prog k a=true:=by kernel_rfl
 o:∀args σ,EN.VW k args σ=none:=by exact λ_ _=>rfl
def jy.h{k:Nat}(b:jy k):EN.fns k=some b.a:=aoC b.g b.i
def pI:jy 10:=.mk _
def FP:jy 12:=.mk _
def sN:jy 13:=.mk _
def sO:jy 14:=.mk _
def CU:jy 18:=.mk _
def akH:jy 19:=.mk _
def wW:jy 24:=.mk _
def FQ:jy 28:=.mk _
def NR:jy 29:=.mk _
def qN:jy 30:=.mk _
def sS:jy 31:=.mk _
def jT:jy 32:=.mk _
def kU:jy 33:=.mk _
def nP:jy 42:=.mk _
def CV:jy 43:=.mk _
def Jg:jy 50:=.mk _
def FT:jy 51:=.mk _
def qO:jy 52:=.mk _
def mQ:jy 53:=.mk _
def uT:jy 54:=.mk _
def iI:jy 55:=.mk _
def jl:jy 56:=.mk _
def jU:jy 57:=.mk _
def jV:jy 58:=.mk _
def oz:jy 61:=.mk _
def uU:jy 62:=.mk _
def lS:jy 63:=.mk _
def jD:jy 64:=.mk _
def sU:jy 65:=.mk _
def jW:jy 66:=.mk _
def qP:jy 67:=.mk _
def lT:jy 68:=.mk _
def lU:jy 69:=.mk _
def uV:jy 70:=.mk _
def jE:jy 71:=.mk _
def sV:jy 72:=.mk _
def CW:jy 73:=.mk _
def jm:jy 90:=.mk _
def pJ:jy 92:=.mk _
def nG:jy 93:=.mk _
def uX:jy 94:=.mk _
def kX:jy 95:=.mk _
def lV:jy 96:=.mk _
def lW:jy 97:=.mk _
def gX:jy 99:=.mk _
def jF:jy 100:=.mk _
def qQ:jy 101:=.mk _
def uY:jy 102:=.mk _
def qU:jy 103:=.mk _
def jX:jy 104:=.mk _
def jG:jy 105:=.mk _
def iL:jy 106:=.mk _
def oC:jy 107:=.mk _
def sW:jy 108:=.mk _
def uZ:jy 109:=.mk _
def wX:jy 110:=.mk _
def qV:jy 111:=.mk _
def eY:jy 112:=.mk _
def wY:jy 113:=.mk _
def je:jy 114:=.mk _
def kY:jy 116:=.mk _
def Fe:jy 118:=.mk _
def eH:jy 131:=.mk _
def iW:jy 132:=.mk _
def jY:jy 137:=.mk _
def fM:jy 138:=.mk _
def jZ:jy 139:=.mk _
def ku:jy 140:=.mk _
def kC:jy 141:=.mk _
def jf:jy 142:=.mk _
def vg:jy 143:=.mk _
def jo:jy 144:=.mk _
def vk:jy 145:=.mk _
def wZ:jy 146:=.mk _
def qW:jy 147:=.mk _
def dN:jy 148:=.mk _
def sZ:jy 149:=.mk _
def pK:jy 150:=.mk _
def kZ:jy 152:=.mk _
def iJ:jy 153:=.mk _
def fO:jy 171:=.mk _
def xg:jy 175:=.mk _
def vw:jy 176:=.mk _
def lu:jy 177:=.mk _
def nH:jy 178:=.mk _
def lX:jy 179:=.mk _
def lY:jy 180:=.mk _
def mV:jy 181:=.mk _
def lZ:jy 182:=.mk _
def xq:jy 204:=.mk _
def gQ:jy 205:=.mk _
def xu:jy 206:=.mk _
end Go.Proofs.Xe
end
