import Derived.Test.YthkggcakedkboaaGreatDoorYd13
import Derived.Lib.OwnBridge
set_option linter.all false
set_option maxHeartbeats 8000000
noncomputable section
namespace Go.Proofs.Ins
open Go.RowKit
def CV{F:Nat->List Value}{sz:Nat}:∀(n:Nat),(∀i,i<n->(F i).length=sz)->((List.range n).flatMap F).length=n*sz
 |0,_=>by simp
 |n+1,h=>by rw[fv,cM,az,CV n (λi hi=>h i jb)];simp[h n jb,cA]
def cJ(l:List Int)(j:Nat):List Value:=[.int .i64 (l.getD j 0)]
def abr(l:List Int):(List.range l.length).flatMap (cJ l)=l.map (Value.int .i64):=by
 apply List.ext_getElem?;intro j;by_cases h:j<l.length
 .have:=xZ (sz:=1) (F:=cJ l) l.length (λi _=>rfl) j 0 h jb;grind[cJ]
 .rw[List.getElem?_eq_none,List.getElem?_eq_none]
  .simpa using h
  .rw[CV (sz:=1) l.length (λi _=>rfl)];omega
def alK(l:List Int)(x:Int)(j:Nat)(hj:j<l.length+1):(if j<l.length then cJ l j else [.int .i64 x])=cJ (l++[x]) j:=by grind[cJ]
def Hu{w:World}{base:Nat}{T:TypeId}{v:Value}{l:List Int}:lJ w base T 1 v l.length (cJ l)↔w.ownsRow base T 1 v l.length (l.map (Value.int .i64)):=by unfold lJ;rw[abr];exact⟨λh=>h.1,λh=>⟨h,λ_ _=>rfl⟩⟩
def below_grow{B:Nat}{w0 w:World}{os:Array Obj}(h:Below B w0 w)(hB:B<=w.heap.size):Below B w0 (Sort.grow w os):=
 ⟨h.os,h.tape,h.output,by have:=h.size;grind[Sort.grow],λk hk=>by rw[<-h.block k hk];grind[Sort.heap_grow_old]⟩
def ownsRow_grow{w:World}{base:Nat}{T:TypeId}{v:Value}{n:Nat}{xs:List Value}{os:Array Obj}(h:w.ownsRow base T 1 v n xs):(Sort.grow w os).ownsRow base T 1 v n xs:=by
 obtain⟨h1,h2⟩:=h;refine⟨h1,?_⟩;rcases h2 with h2|⟨g,cap,cur,hv,hb,hg,r⟩
 .grind
 .exact .inr ⟨g,cap,cur,hv,hb,by grind[Sort.heap_grow_old],r⟩
def WH{w:World}{base:Nat}{T:TypeId}{sz n:Nat}{F:Nat->List Value}(h:lJ w base T sz (.slice none 0 0) n F):n=0:=by obtain⟨⟨-,h1⟩,-⟩:=h;grind
def ahd(w:World)(base:Nat)(v:Value)(l:List Int)(h:lJ w base 3 1 v l.length (cJ l))(hb:base<=w.heap.size)(hl:l.length<4611686018427387904):
  Calls Tryz.prog 134 #[v] w λe w'=>e=.returned (.tuple #[])/\∃l':List Int,l'.length=l.length/\(∀x,x∈l'↔x∈l)/\lJ w' base 3 1 v l'.length (cJ l')/\Below base w w'/\l'=l.mergeSort λx y=>decide (x<=y):=by
 by_cases hv:v=.slice none 0 0
 .subst hv
  refine(Tryz.slices_Sort_int_none none 0 w).mono λe w' ⟨he,hw⟩=>⟨he,l,rfl,λ_=>Iff.rfl,by grind,by grind[Below.refl],by rw[fe (WH h)];simp⟩
 .have hr:=Hu.mp h
  obtain⟨g,cap,rfl,h1,h2,h3,h4,h5,h6⟩:=Lib.holds_of_ownsRow hr hv
  refine(Tryz.slices_Sort_int g 0 cap l w h6 h2 hl).mono ?_
  rintro e w' ⟨he,n,os,rfl⟩
  refine⟨he,l.mergeSort λx y=>decide (x<=y),by simp,λx=>List.mem_mergeSort,Hu.mpr ?_,below_grow (Lib.below_putRow (Below.refl base w) h1) (by simp_all),rfl⟩
  refine ownsRow_grow ?_
  have:=Lib.ownsRow_putRow (q:=n) (k:=l.length) (ys:=l.mergeSort λx y=>decide (x<=y)) hr kc jp
  grind[List.length_mergeSort]
def WI(w:World)(base:Nat)(v:Value)(l:List Int)(h:lJ w base 3 1 v l.length (cJ l))(hl:l.length<=9223372036854775807):
  Calls Tryz.prog 135 #[v] w λe w'=>∃v' l',e=.returned v'/\l'.length<=l.length/\(∀x,x∈l'↔x∈l)/\lJ w' base 3 1 v' l'.length (cJ l')/\Below base w w'/\l'=Lib.compact l/\(v=.slice none 0 0->v'=.slice none 0 0):=by
 by_cases hv:v=.slice none 0 0
 .subst hv
  refine(Tryz.slices_Compact_int_empty none 0 w).mono λe w' ⟨he,hw⟩=>⟨_,l,he,jp,λ_=>Iff.rfl,by grind,by grind[Below.refl],by rw[fe (WH h)];rfl,λh=>h⟩
 .have hr:=Hu.mp h
  obtain⟨g,cap,rfl,h1,h2,h3,h4,h5,h6⟩:=Lib.holds_of_ownsRow hr hv
  refine(Tryz.slices_Compact_int g 0 cap l w h6 hl h3).mono ?_
  rintro e w' ⟨he,q,rfl⟩
  have hle:=Lib.compact_length_le l
  refine⟨_,Lib.compact l,he,hle,λx=>mem_compact,Hu.mpr ?_,Lib.below_putRow (Below.refl base w) h1,rfl,λh=>absurd h hv⟩
  grind[Lib.ownsRow_putRow,List.take_left]
def mks(l:List Am)(k:Nat):List Int:=((l.take k).map λx=>x.k).filter λx=>x !=-1
def ahe(l:List Am):mks l 0=[]:=by rfl
def alL{l:List Am}{k:Nat}(h:k<l.length)(h2:(ix l k).k≠-1):mks l (k+1)=mks l k++[(ix l k).k]:=by grind[mks,bJ]
def aqH{l:List Am}{k:Nat}(h:k<l.length)(h2:(ix l k).k=-1):mks l (k+1)=mks l k:=by grind[mks,bJ]
def alM(l:List Am)(k:Nat):(mks l k).length<=k:=by grind[Go.Proofs.Ins.mks]
def alN{a:gZ}{c:Int}:c∈mks a.flatten a.flatten.length↔c≠-1/\PG a c=true:=by grind[mks,PG,memT]
def aue(w:World)(T:TypeId)(a:gZ)(e:Ending)(w':World):Prop:=
 ∃v l,e=.returned v/\l.length<=a.flatten.length/\(∀c,c∈l↔c≠-1/\PG a c=true)/\lJ w' w.heap.size T 1 v l.length (cJ l)/\Below w.heap.size w w'/\l=vV a/\(l=[]->v=.slice none 0 0)
set_option maxRecDepth 100000 in
def WJ(p:Nat->Prop)(v:Value)(a:gZ)(w:World)(hA:wV w p v a)(la:a.length<=140737488351232)(lf:a.flatten.length<=1000000):
  Calls Tryz.prog 91 #[.agg #[v]] w (aue w 3 a):=by
 have HC:=jx (λw' (h:wV w' p v a)=>WG p v a w' h la lf)
 have HA:=jx hA
 have HM:=jx (λc=>alN (a:=a) (c:=c))
 have HY:=jx (λk h h2=>alL (l:=a.flatten) (k:=k) h h2)
 have HN:=jx (λk h h2=>aqH (l:=a.flatten) (k:=k) h h2)
 have HL:=jx (alM a.flatten)
 have H0:=jx (ahe a.flatten)
 have HML:=jx (show vV a=Lib.compact ((mks a.flatten a.flatten.length).mergeSort λx y=>decide (x<=y)) by unfold vV mks;rw[ck])
 unfold aue
 clear hA
 generalize hmm:mks a.flatten=MK at*
 generalize hfl:a.flatten=fl at*
 clear hmm hfl
 generalize hN:fl.length=N at*
 go_enter Tryz.func91,Tryz.ntmps91
 go_wp2_with fail
 refine(HC.out _ (HA.out.on ((Below.refl _ _).alloc jp _))).mono ?_
 rintro e w1 ⟨v1,rfl,ho1,hb1⟩
 obtain⟨-,HB⟩:=aoN hb1
 have HB:=jx HB
 have hz1:=HB.out.size
 have hsl:=ho1.sl
 obtain⟨a1,cap1,rfl,-,-⟩:=hsl.form
 have HSL:=jx hsl
 clear ho1 hb1 hsl HC HA
 go_wp2_with fail
 go_loopw [3,10] (λv i wr=>∃k:Nat,i=.int .i64 k/\k<=N/\lJ wr w1.heap.size 3 1 v (MK k).length (cJ (MK k))/\Below w1.heap.size w1 wr/\Hid (MK k=[]->v=.slice none 0 0)) (λ_ i _=>N-(intOf i).toNat)
 case atStart=>exact⟨0,rfl,jb,by rw[H0.out];exact lJ.nil _ _ _ _ _,Below.refl _ _,jx λ_=>rfl⟩
 case round=>
  obtain⟨k,rfl,hk,hown,hbel,HNV⟩:=hrel;have HO:=jx hown;have HBR:=jx hbel;have hsz:=hbel.size;by_cases hlt:k<N
  .obtain⟨b,off,rfl,-,-,-⟩:=HSL.out.get jb;have e0:=HSL.out.cellAt rfl hbel (i:=k) (j:=0) hlt jb;have e1:wr.cell? ⟨b,off+k*5+1,none⟩=some (Value.bool (ix fl k).b):=HSL.out.cellAt rfl hbel (i:=k) (j:=1) hlt jb;have e2:wr.cell? ⟨b,off+k*5+2,none⟩=some (Value.bool (ix fl k).a.n):=HSL.out.cellAt rfl hbel (i:=k) (j:=2) hlt jb;have e3:wr.cell? ⟨b,off+k*5+3,none⟩=some (Value.string (ix fl k).a.s):=HSL.out.cellAt rfl hbel (i:=k) (j:=3) hlt jb;have e4:wr.cell? ⟨b,off+k*5+4,none⟩=some (Value.string (ix fl k).a.d):=HSL.out.cellAt rfl hbel (i:=k) (j:=4) hlt jb;rw[cB]at e0;have e0':wr.cell? ⟨b,off+k*5,none⟩=some (Value.int .i64 (ix fl k).k):=e0;have HYK:=jx (HY.out k jb);have HNK:=jx (HN.out k jb);have hlk:=HL.out k;have i1:(0:Int)<=(k:Int):=jb;have i2:(k:Int)<(N:Int):=jb;clear e0 hown hbel HY HN HL HM;generalize auf:MK (k+1)=M1 at*;have HM1:=jx auf;generalize awF:MK k=M0 at*;clear auf awF;generalize (ix fl k).k=x at*;generalize (ix fl k).b=pb at*;generalize (ix fl k).a.n=an at*;generalize (ix fl k).a.s=as' at*;generalize (ix fl k).a.d=ad at*;by_cases hx:x=-1
   .have h1:(x !=-1)=false:=by simp[hx]
    have HX:=jx (HNK.out hx);clear HYK HNK;go_wp2;go_roundw
    case rel=>exact⟨k+1,by go_num,jb,by rw[HM1.out,HX.out];exact HO.out.below ((Below.refl _ _).alloc jp _) jp,HBR.out.alloc jb _,jx λh=>HNV.out (by rwa[HM1.out,HX.out]at h)⟩
    case measure=>simp[intOf];omega
   .have h1:(x !=-1)=true:=by simp[hx]
    have HX:=jx (HYK.out hx);have HO2:=jx (HO.out.below ((Below.refl wr.heap.size wr).alloc jp (.cells #[.int .i64 x,.bool pb,.bool an,.string as',.string ad] 97)) jp);have hz2:(wr.alloc (.cells #[.int .i64 x,.bool pb,.bool an,.string as',.string ad] 97)).heap.size=wr.heap.size+1:=by simp
    clear HYK HNK;go_wp2_with (refine L6 _ _ 127 3 1 8 w1.heap.size _ _ _ [.int .i64 x] (by rfl) (by rfl) Tryz.underlying127 aki jb (by rfl) (by rfl) (by simp[Value.oneCell']) (by rw[World.size_alloc];rfl) HO2.out jb jb (by rw[World.size_alloc];omega) ?_;intro v9 w9 ho9 hb9;have HO9:=jx ho9;have HB9:=jx hb9;clear ho9 hb9)
    go_roundw
    case rel=>
     refine⟨k+1,by go_num,jb,?_,(HBR.out.alloc jb _).trans HB9.out,jx λh=>by rw[HM1.out,HX.out]at h;simp at h⟩;rw[HM1.out,HX.out,az];exact HO9.out.congr λj hj=>alK _ _ j hj
    case measure=>simp[intOf];omega
  .obtain rfl:k=N:=jb;have hnl:decide ((k:Int)<(k:Int))=false:=by simp
   have hlk:=HL.out k;have HST:=jx (ahd wr w1.heap.size u3 (MK k) hown jb jb);go_wp2_with fail;refine HST.out.mono ?_;rintro e w2 ⟨rfl,l2,hl2,hm2,ho2,hb2,hs2⟩;have HCP:=jx (WI w2 w1.heap.size u3 l2 ho2 jb);have HB2:=jx (HBR.out.trans hb2);have HM2:=jx hm2;have HS2:=jx hs2;clear ho2 hb2 HST hm2 hown hbel hs2;go_wp2_with fail;refine HCP.out.mono ?_;rintro e w3 ⟨v3,l3,rfl,hl3,hm3,ho3,hb3,hc3,hn3⟩;have HO3:=jx ho3;have HM3:=jx hm3;have HB3:=jx (HB2.out.trans hb3);have HC3:=jx hc3;have HN3:=jx hn3;clear ho3 hm3 hb3 hc3 hn3;go_wp2;go_ret;exact⟨_,l3,rfl,jb,λc=>by rw[HM3.out,HM2.out,HM.out],HO3.out.mono jb,chain HB.out HB3.out jp,by rw[HC3.out,HS2.out,HML.out],λh=>HN3.out (HNV.out (List.eq_nil_iff_forall_not_mem.mpr λx hx=>by have:=(HM3.out x).mpr ((HM2.out x).mpr hx);rw[h]at this;cases this))⟩
end Go.Proofs.Ins
namespace Go.Proofs.Xe
open Go.RowKit Go.Proofs.Ins
theorem WL:∀l:List Int,ones l.length (λi=>B.int .i64 (ix l i))=l.map (B.int .i64)
 |[]=>rfl
 |x::l=>by show [B.int .i64 x]++bD l.length (λi=>[B.int .i64 (ix l i)])=_;have:=WL l;unfold ones at this;rw[this];rfl
theorem WM(φ:Ph):∀l:List Int,kJ φ (l.map (B.int .i64)) (l.map (Value.int .i64))
 |[]=>trivial
 |_::l=>⟨rfl,WM φ l⟩
def ahf(l:List Int)(σ:St):Option (V×St):=if l.length=0 then some (.c .aV,σ)else some (.c (.sl σ.aj 0 l.length .opn),⟨hset σ.h σ.aj ⟨ones l.length (λi=>.int .i64 (ix l i)),some (1,3)⟩,σ.aj+1⟩)
def abt{φ:Ph}:∀{n:Nat}{G:Nat->List B}{F:Nat->List Value},(∀i,i<n->kJ φ (G i) (F i))->kJ φ (bD n G) ((List.range n).flatMap F)
 |0,_,_,_=>trivial
 |n+1,G,F,h=>by rw[List.range_succ_eq_map,ia,fW];exact kJ.append (h 0 jb) (abt λi hi=>h (i+1) jb)
def ahg(l:List Am)(σ:St):Option (V×St):=if l.length=0 then some (.c .aV,σ)else some (.c (.sl σ.aj 0 l.length .opn),⟨hset σ.h σ.aj ⟨bD l.length λi=>Bz (ix l i),some (5,97)⟩,σ.aj+1⟩)
noncomputable section
open Classical in
def ahh(args:List V)(σ:St):Option (V×St):=match args with
 |[.agg [v]]=>if h:∃a,dX (λ_=>True) σ.h v a/\a.length<=1000000/\a.flatten.length<=1000000 then ahf (vV (Classical.choose h)) σ else none
 |_=>none
open Classical in
def ahi(args:List V)(σ:St):Option (V×St):=match args with
 |[.c v]=>if h:∃a,dX (λ_=>True) σ.h v a/\a.length<=1000000/\a.flatten.length<=1000000 then ahg (Classical.choose h).flatten σ else none
 |_=>none
def ahj(f:Nat)(args:List V)(σ:St):Option (V×St):=
 if f=133 then ahi args σ
 else if f=91 then ahh args σ
 else none
end
def alO{p:Nat->Prop}{σ:St}{v:B}{a:gZ}(ha:dX p σ.h v a)(h1:a.length<=1000000)(h2:a.flatten.length<=1000000):ahh [.agg [v]] σ=ahf (vV a) σ:=by
 have h:∃a,dX (λ_=>True) σ.h v a/\a.length<=1000000/\a.flatten.length<=1000000:=⟨a,ha.keep (λ_ _=>rfl) λ_ _=>trivial,h1,h2⟩
 unfold ahh;dsimp only;rw[dif_pos h,(Classical.choose_spec h).1.uniq ha]
def ahk{args:List V}{σ σ':St}{v:V}(h:ahh args σ=some (v,σ')):∃t a,args=[.agg [t]]/\ahf (vV a) σ=some (v,σ')/\dX (λ_=>True) σ.h t a/\a.length<=1000000/\a.flatten.length<=1000000:=by
 unfold ahh at h;split at h
 .next t=>
  split at h
  .grind
  .cases h
 .cases h
def alP{p:Nat->Prop}{σ:St}{v:B}{a:gZ}(ha:dX p σ.h v a)(h1:a.length<=1000000)(h2:a.flatten.length<=1000000):ahi [.c v] σ=ahg a.flatten σ:=by
 have h:∃a,dX (λ_=>True) σ.h v a/\a.length<=1000000/\a.flatten.length<=1000000:=⟨a,ha.keep (λ_ _=>rfl) λ_ _=>trivial,h1,h2⟩
 unfold ahi;dsimp only;rw[dif_pos h,(Classical.choose_spec h).1.uniq ha]
def ahl{args:List V}{σ σ':St}{v:V}(h:ahi args σ=some (v,σ')):∃t a,args=[.c t]/\ahg a.flatten σ=some (v,σ')/\dX (λ_=>True) σ.h t a/\a.length<=1000000/\a.flatten.length<=1000000:=by
 unfold ahi at h;split at h
 .next t=>
  split at h
  .grind
  .cases h
 .cases h
def abu{φ:Ph}{bI:Array Value}{x:V}(h:GN φ [x] bI.toList):∃u,bI= #[u]/\RV φ x u:=by
 obtain⟨l⟩:=bI;match l,h with
 |[u],h=>exact⟨u,rfl,h.1⟩
def alQ(f:Nat)(args:List V)(σ:St)(v:V)(σ':St)(h:ahj f args σ=some (v,σ')):okF Tryz.prog f/\∀(N:Nat) (w0:World) (φ:Ph) (w:World) (bI:Array Value),Rel N w0 φ σ w->GN φ args bI.toList->
  Calls Tryz.prog f bI w λe w'=>∃cv,e=.returned cv/\∃φ',Ext σ.aj φ φ'/\Rel N w0 φ' σ' w'/\RV φ' v cv/\σ.aj<=σ'.aj:=by
 unfold ahj at h
 split at h
 .next e=>
  subst e
  obtain⟨t,a,rfl,h3,h1,la,lf⟩:=ahl h
  refine⟨yK (by kernel_rfl),λN w0 φ w bI hR ha=>?_⟩
  obtain⟨u,rfl,hu⟩:=abu ha
  refine(Ht (InW w) u a w (h1.un hR hu) jb lf).mono ?_
  rintro e w' ⟨v',rfl,ho,hb,hz⟩
  generalize a.flatten=l at*
  unfold ahg at h3
  split at h3
  .next h0=>
   cases h3
   exact⟨_,rfl,φ,Ext.refl _ _,hR.below hb,hz h0,jp⟩
  .next h0=>
   cases h3
   obtain⟨⟨-,h4⟩,-⟩:=ho
   rcases h4 with⟨-,h4⟩|⟨c,cap,cur,rfl,hc,hg,hnc,hm,hs,hx⟩
   .omega
   .have hN:σ.new ⟨bD l.length λi=>Bz (ix l i),some (5,97)⟩=some (σ.aj,⟨hset σ.h σ.aj ⟨bD l.length λi=>Bz (ix l i),some (5,97)⟩,σ.aj+1⟩):=jH _ _
    have hol:(bD l.length λi=>Bz (ix l i)).length=l.length*5:=oH λ_=>rfl
    have hcl:c<w'.heap.size:=(eN.mp hg).1
    refine⟨_,rfl,_,wM φ σ.aj (c,cap),(hR.below hb).new hN (w':=w') ⟨rfl,rfl,rfl,jp,λ_ _ _=>rfl⟩ (av hR.size hc) hcl (λi p hi _ e=>?_) (.inl ⟨DV jj,cur,97,hg,?_,?_,λe t he=>?_⟩),.inl ⟨(c,cap),cap,gI _ _ _,rfl,hnc,?_,rfl,rfl⟩,by simp⟩
    .have:=hR.lo i p hi
     omega
    .show kJ φ (bD l.length λi=>Bz (ix l i)) (cur.toList.take (bD l.length λi=>Bz (ix l i)).length)
     rw[hol,hx]
     exact abt λi _=>⟨rfl,rfl,rfl,rfl,rfl,trivial⟩
    .grind
    .grind
    grind[maxLen]
 .split at h
  .next e=>
   subst e
   obtain⟨t,a,rfl,h3,h1,la,lf⟩:=ahk h
   refine⟨yK (by kernel_rfl),λN w0 φ w bI hR ha=>?_⟩
   obtain⟨u,rfl,hu⟩:=abu ha
   obtain⟨r,rfl,hr⟩:=hu
   obtain⟨rl⟩:=r
   match rl,hr with
   |[tv],⟨ht,_⟩=>
    refine(WJ (InW w) tv a w (h1.un hR ht) jb lf).mono ?_
    rintro e w' ⟨v',l,rfl,-,-,ho,hb,hl,hn⟩
    rw[<-hl]at h3
    unfold ahf at h3
    split at h3
    .next h0=>
     cases h3
     exact⟨_,rfl,φ,Ext.refl _ _,hR.below hb,hn (fe h0),jp⟩
    .next h0=>
     cases h3
     obtain⟨⟨-,h4⟩,-⟩:=ho
     rcases h4 with⟨-,h4⟩|⟨c,cap,cur,rfl,hc,hg,hnc,hm,hs,hx⟩
     .omega
     .have hN:σ.new ⟨ones l.length (λi=>.int .i64 (ix l i)),some (1,3)⟩=some (σ.aj,⟨hset σ.h σ.aj ⟨ones l.length (λi=>.int .i64 (ix l i)),some (1,3)⟩,σ.aj+1⟩):=jH _ _
      rw[abr,ft]at hx
      have hol:(ones l.length λi=>B.int .i64 (ix l i)).length=l.length:=by grind[Nw]
      have hcl:c<w'.heap.size:=(eN.mp hg).1
      refine⟨_,rfl,_,wM φ σ.aj (c,cap),(hR.below hb).new hN (w':=w') ⟨rfl,rfl,rfl,jp,λ_ _ _=>rfl⟩ (av hR.size hc) hcl (λi p hi _ e=>?_) (.inl ⟨DV jj,cur,3,hg,?_,?_,λe t he=>?_⟩),.inl ⟨(c,cap),cap,gI _ _ _,rfl,hnc,?_,rfl,rfl⟩,by simp⟩
      .have:=hR.lo i p hi
       omega
      .grind[WL,WM]
      .grind
      .grind
      grind[maxLen]
  .cases h
def alR(f:Nat)(args:List V)(σ:St):Option (V×St):=ahj f args σ
def alS(f:Nat)(args:List V)(σ:St)(v:V)(σ':St)(h:alR f args σ=some (v,σ')):okF Tryz.prog f/\∀(N:Nat) (w0:World) (φ:Ph) (w:World) (bI:Array Value),Rel N w0 φ σ w->GN φ args bI.toList->
  Calls Tryz.prog f bI w λe w'=>∃cv,e=.returned cv/\∃φ',Ext σ.aj φ φ'/\Rel N w0 φ' σ' w'/\RV φ' v cv/\σ.aj<=σ'.aj:=alQ f args σ v σ' h
abbrev alT:List Nat:=[76
 ,39
 ,81
 ,40
 ,83
 ,82
 ,84
 ,85
 ,49
 ,48
 ,26
 ,41
 ,75
 ,37
 ,45
 ,151
 ,46
 ,23
 ,38
 ,17
 ,98
 ,44
 ,22
 ,60
 ,117
 ,115
 ,16
 ,136
 ,59
 ]
def ad4:Nat->List V->St->Option (V×St):=(Eb alT).VD
def abv{f:Nat}(h:alT.contains f=false)(args:List V)(σ:St):ad4 f args σ=none:=by unfold ad4 Eb;dsimp only;rw[h];rfl
class aug (E:Env):Prop where
 o:∀f args σ r,ad4 f args σ=some r->E.VD f args σ=some r
instance {E:Env}{f:Nat} [h:aug E] [m:Mm f alT]:jF E f:=⟨λargs v σ hv=>h.o f args σ _ (by unfold ad4;exact jF.o (E:=Eb alT) args v σ hv)⟩
def alU(f:Nat):Prop:=okF Tryz.prog f/\∀w,Calls Tryz.prog f #[] w λe w'=>e=.returned (.bool true)/\Below w.heap.size w w'
def awN:List Nat:=[
 1000000]
noncomputable section
open Classical in
def auh(f:Nat)(args:List V)(σ:St):Option (V×St):=bif awN.contains f then(match args with|[]=>if alU f then some (.c (.bool true),σ)else none|_=>none)else none
def WO(f:Nat)(args:List V)(σ:St):Option (V×St):=match ad4 f args σ with
 |some r=>some r
 |none=>match alR f args σ with
  |some r=>some r
  |none=>auh f args σ
end
class ZC (E:Env):Prop where
 a:∀f args σ r,WO f args σ=some r->E.VD f args σ=some r
instance {E:Env} [h:ZC E]:aug E:=⟨λf args σ r hv=>h.a f args σ r (by unfold WO;rw[hv])⟩
def QC{E:Env}[hE:ZC E]{f:Nat}{args:List V}{v:V}{σ σ2:St}{K:V->St->Prop}(h:WO f args σ=some (v,σ2)):aC E f args σ K=K v σ2:=by
 refine propext ⟨λ⟨n,v',σ',h1,h2⟩=>?_,λhk=>V7 (hE.a f args σ _ h) hk⟩;have h3:iP E 1 f args σ=some (v,σ2):=by rw[iP];unfold GH;rw[hE.a f args σ _ h]
 have a:=ni (show n<=n+1 by omega) f args σ _ h1;have b:=ni (show 1<=n+1 by omega) f args σ _ h3;rw[a]at b;cases b;exact h2
section
variable {E:Env} [ZC E] {σ:St} {K:V→St→Prop}
end
end Go.Proofs.Xe
namespace Go.Proofs.Xe
open Go.Proofs
set_option maxRecDepth 1000000
set_option maxHeartbeats 8000000
def EN:Env:=⟨tF Tryz.prog,WO⟩
instance ayj:ZC EN:=⟨λ_ _ _ _ h=>h⟩
structure jg(k:Nat) where
 a:AF
 g:tG Tryz.prog k=some a:=by conv=>(lhs;reduce;simp only[anW])
 i:VW Tryz.prog k a=true:=by kernel_rfl
 o:∀args σ,EN.VD k args σ=none:=by exact λ_ _=>rfl
def jg.h{k:Nat}(b:jg k):EN.fns k=some b.a:=anV b.g b.i
def nX:jg 9:=.mk _
def FI:jg 12:=.mk _
def sJ:jg 13:=.mk _
def sK:jg 14:=.mk _
def CW:jg 18:=.mk _
def aj8:jg 19:=.mk _
def wX:jg 24:=.mk _
def Ap:jg 27:=.mk _
def FN:jg 28:=.mk _
def ND:jg 29:=.mk _
def qF:jg 30:=.mk _
def sN:jg 31:=.mk _
def jO:jg 32:=.mk _
def kL:jg 33:=.mk _
def nM:jg 42:=.mk _
def CX:jg 43:=.mk _
def Jc:jg 50:=.mk _
def FP:jg 51:=.mk _
def qG:jg 52:=.mk _
def mP:jg 53:=.mk _
def uN:jg 54:=.mk _
def iG:jg 55:=.mk _
def jh:jg 56:=.mk _
def jP:jg 57:=.mk _
def jQ:jg 58:=.mk _
def nY:jg 61:=.mk _
def uO:jg 62:=.mk _
def lN:jg 63:=.mk _
def jw:jg 64:=.mk _
def sO:jg 65:=.mk _
def jR:jg 66:=.mk _
def qH:jg 67:=.mk _
def lQ:jg 68:=.mk _
def lS:jg 69:=.mk _
def uP:jg 70:=.mk _
def jy:jg 71:=.mk _
def sS:jg 72:=.mk _
def CY:jg 73:=.mk _
def ji:jg 90:=.mk _
def oU:jg 92:=.mk _
def nG:jg 93:=.mk _
def uS:jg 94:=.mk _
def kM:jg 95:=.mk _
def lU:jg 96:=.mk _
def lV:jg 97:=.mk _
def gK:jg 99:=.mk _
def jA:jg 100:=.mk _
def qI:jg 101:=.mk _
def uT:jg 102:=.mk _
def qJ:jg 103:=.mk _
def jS:jg 104:=.mk _
def jB:jg 105:=.mk _
def iJ:jg 106:=.mk _
def nZ:jg 107:=.mk _
def sU:jg 108:=.mk _
def uU:jg 109:=.mk _
def wY:jg 110:=.mk _
def qL:jg 111:=.mk _
def dZ:jg 112:=.mk _
def wZ:jg 113:=.mk _
def iZ:jg 114:=.mk _
def kN:jg 116:=.mk _
def Fb:jg 118:=.mk _
def dY:jg 131:=.mk _
def iQ:jg 132:=.mk _
def jT:jg 137:=.mk _
def fH:jg 138:=.mk _
def jU:jg 139:=.mk _
def jV:jg 140:=.mk _
def jW:jg 141:=.mk _
def jc:jg 142:=.mk _
def uV:jg 143:=.mk _
def jk:jg 144:=.mk _
def uX:jg 145:=.mk _
def xg:jg 146:=.mk _
def qM:jg 147:=.mk _
def dF:jg 148:=.mk _
def sV:jg 149:=.mk _
def oV:jg 150:=.mk _
def kT:jg 152:=.mk _
def iH:jg 153:=.mk _
def fJ:jg 171:=.mk _
def xq:jg 175:=.mk _
def uY:jg 176:=.mk _
def kU:jg 177:=.mk _
def nH:jg 178:=.mk _
def lW:jg 179:=.mk _
def lX:jg 180:=.mk _
def mQ:jg 181:=.mk _
def lY:jg 182:=.mk _
def xu:jg 204:=.mk _
def gu:jg 205:=.mk _
def xw:jg 206:=.mk _
end Go.Proofs.Xe
end
