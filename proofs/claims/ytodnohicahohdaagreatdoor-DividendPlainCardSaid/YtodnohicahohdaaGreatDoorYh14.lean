import Derived.Test.YtodnohicahohdaaGreatDoorYh13
import Derived.Lib.OwnBridge
set_option linter.all false
set_option maxHeartbeats 8000000
noncomputable section
namespace Go.Proofs.Ins
open Go.RowKit
def EL{F:Nat->List Value}{sz:Nat}:∀(n:Nat),(∀i,i<n->(F i).length=sz)->((List.range n).flatMap F).length=n*sz
 |0,_=>by simp
 |n+1,h=>by rw[eV,cH,az,EL n (λi hi=>h i jb)];simp[h n jb,cf]
def cJ(l:List Int)(j:Nat):List Value:=[.int .i64 (l.getD j 0)]
def aes(l:List Int):(List.range l.length).flatMap (cJ l)=l.map (Value.int .i64):=by
 apply List.ext_getElem?;intro j;by_cases h:j<l.length
 .have:=zZ (sz:=1) (F:=cJ l) l.length (λi _=>rfl) j 0 h jb;grind[cJ]
 .rw[List.getElem?_eq_none,List.getElem?_eq_none]
  .simpa using h
  .rw[EL (sz:=1) l.length (λi _=>rfl)];omega
def apz(l:List Int)(x:Int)(j:Nat)(hj:j<l.length+1):(if j<l.length then cJ l j else [.int .i64 x])=cJ (l++[x]) j:=by grind[cJ]
def Jv{w:World}{base:Nat}{T:TypeId}{v:Value}{l:List Int}:ng w base T 1 v l.length (cJ l)↔w.ownsRow base T 1 v l.length (l.map (Value.int .i64)):=by unfold ng;rw[aes];exact⟨λh=>h.1,λh=>⟨h,λ_ _=>rfl⟩⟩
def below_grow{B:Nat}{w0 w:World}{os:Array Obj}(h:Below B w0 w)(hB:B<=w.heap.size):Below B w0 (Sort.grow w os):=
 ⟨h.os,h.tape,h.output,by have:=h.size;grind[Sort.grow],λk hk=>by rw[<-h.block k hk];grind[Sort.heap_grow_old]⟩
def ownsRow_grow{w:World}{base:Nat}{T:TypeId}{v:Value}{n:Nat}{xs:List Value}{os:Array Obj}(h:w.ownsRow base T 1 v n xs):(Sort.grow w os).ownsRow base T 1 v n xs:=by
 obtain⟨h1,h2⟩:=h;refine⟨h1,?_⟩;rcases h2 with h2|⟨g,cap,cur,hv,hb,hg,r⟩
 .grind
 .exact .inr ⟨g,cap,cur,hv,hb,by grind[Sort.heap_grow_old],r⟩
def Zv{w:World}{base:Nat}{T:TypeId}{sz n:Nat}{F:Nat->List Value}(h:ng w base T sz (.slice none 0 0) n F):n=0:=by obtain⟨⟨-,h1⟩,-⟩:=h;grind
def akA(w:World)(base:Nat)(v:Value)(l:List Int)(h:ng w base 3 1 v l.length (cJ l))(hb:base<=w.heap.size)(hl:l.length<4611686018427387904):
  Calls Tryz.prog 258 #[v] w λe w'=>e=.returned (.tuple #[])/\∃l':List Int,l'.length=l.length/\(∀x,x∈l'↔x∈l)/\ng w' base 3 1 v l'.length (cJ l')/\Below base w w'/\l'=l.mergeSort λx y=>decide (x<=y):=by
 by_cases hv:v=.slice none 0 0
 .subst hv
  refine(Tryz.slices_Sort_int_none none 0 w).mono λe w' ⟨he,hw⟩=>⟨he,l,rfl,λ_=>Iff.rfl,by grind,by grind[Below.refl],by rw[eo (Zv h)];simp⟩
 .have hr:=Jv.mp h
  obtain⟨g,cap,rfl,h1,h2,h3,h4,h5,h6⟩:=Lib.holds_of_ownsRow hr hv
  refine(Tryz.slices_Sort_int g 0 cap l w h6 h2 hl).mono ?_
  rintro e w' ⟨he,n,os,rfl⟩
  refine⟨he,l.mergeSort λx y=>decide (x<=y),by simp,λx=>List.mem_mergeSort,Jv.mpr ?_,below_grow (Lib.below_putRow (Below.refl base w) h1) (by simp_all),rfl⟩
  refine ownsRow_grow ?_
  have:=Lib.ownsRow_putRow (q:=n) (k:=l.length) (ys:=l.mergeSort λx y=>decide (x<=y)) hr kc jp
  grind[List.length_mergeSort]
def Zw(w:World)(base:Nat)(v:Value)(l:List Int)(h:ng w base 3 1 v l.length (cJ l))(hl:l.length<=9223372036854775807):
  Calls Tryz.prog 259 #[v] w λe w'=>∃v' l',e=.returned v'/\l'.length<=l.length/\(∀x,x∈l'↔x∈l)/\ng w' base 3 1 v' l'.length (cJ l')/\Below base w w'/\l'=Lib.compact l/\(v=.slice none 0 0->v'=.slice none 0 0):=by
 by_cases hv:v=.slice none 0 0
 .subst hv
  refine(Tryz.slices_Compact_int_empty none 0 w).mono λe w' ⟨he,hw⟩=>⟨_,l,he,jp,λ_=>Iff.rfl,by grind,by grind[Below.refl],by rw[eo (Zv h)];rfl,λh=>h⟩
 .have hr:=Jv.mp h
  obtain⟨g,cap,rfl,h1,h2,h3,h4,h5,h6⟩:=Lib.holds_of_ownsRow hr hv
  refine(Tryz.slices_Compact_int g 0 cap l w h6 hl h3).mono ?_
  rintro e w' ⟨he,q,rfl⟩
  have hle:=Lib.compact_length_le l
  refine⟨_,Lib.compact l,he,hle,λx=>mem_compact,Jv.mpr ?_,Lib.below_putRow (Below.refl base w) h1,rfl,λh=>absurd h hv⟩
  grind[Lib.ownsRow_putRow,List.take_left]
def mks(l:List yQ)(k:Nat):List Int:=((l.take k).map λx=>x.k).filter λx=>x !=-1
def akB(l:List yQ):mks l 0=[]:=by rfl
def apA{l:List yQ}{k:Nat}(h:k<l.length)(h2:(ix l k).k≠-1):mks l (k+1)=mks l k++[(ix l k).k]:=by grind[mks,bJ]
def avg{l:List yQ}{k:Nat}(h:k<l.length)(h2:(ix l k).k=-1):mks l (k+1)=mks l k:=by grind[mks,bJ]
def apB(l:List yQ)(k:Nat):(mks l k).length<=k:=by grind[Go.Proofs.Ins.mks]
def apC{a:fD}{c:Int}:c∈mks a.flatten a.flatten.length↔c≠-1/\Qm a c=true:=by grind[mks,Qm,memT]
def ay7(w:World)(T:TypeId)(a:fD)(e:Ending)(w':World):Prop:=
 ∃v l,e=.returned v/\l.length<=a.flatten.length/\(∀c,c∈l↔c≠-1/\Qm a c=true)/\ng w' w.heap.size T 1 v l.length (cJ l)/\Below w.heap.size w w'/\l=yC a/\(l=[]->v=.slice none 0 0)
set_option maxRecDepth 100000 in
def Zx(p:Nat->Prop)(v:Value)(a:fD)(w:World)(hA:yR w p v a)(la:a.length<=140737488351232)(lf:a.flatten.length<=1000000):
  Calls Tryz.prog 168 #[.agg #[v]] w (ay7 w 3 a):=by
 have HC:=jx (λw' (h:yR w' p v a)=>Zu p v a w' h la lf)
 have HA:=jx hA
 have HM:=jx (λc=>apC (a:=a) (c:=c))
 have HY:=jx (λk h h2=>apA (l:=a.flatten) (k:=k) h h2)
 have HN:=jx (λk h h2=>avg (l:=a.flatten) (k:=k) h h2)
 have HL:=jx (apB a.flatten)
 have H0:=jx (akB a.flatten)
 have HML:=jx (show yC a=Lib.compact ((mks a.flatten a.flatten.length).mergeSort λx y=>decide (x<=y)) by unfold yC mks;rw[cj])
 unfold ay7
 clear hA
 generalize hmm:mks a.flatten=MK at*
 generalize hfl:a.flatten=fl at*
 clear hmm hfl
 generalize hN:fl.length=N at*
 go_enter Tryz.func168,Tryz.ntmps168
 go_wp2_with fail
 refine(HC.out _ (HA.out.on ((Below.refl _ _).alloc jp _))).mono ?_
 rintro e w1 ⟨v1,rfl,ho1,hb1⟩
 obtain⟨-,HB⟩:=ato hb1
 have HB:=jx HB
 have hz1:=HB.out.size
 have hsl:=ho1.sl
 obtain⟨a1,cap1,rfl,-,-⟩:=hsl.form
 have HSL:=jx hsl
 clear ho1 hb1 hsl HC HA
 go_wp2_with fail
 go_loopw [3,10] (λv i wr=>∃k:Nat,i=.int .i64 k/\k<=N/\ng wr w1.heap.size 3 1 v (MK k).length (cJ (MK k))/\Below w1.heap.size w1 wr/\Hid (MK k=[]->v=.slice none 0 0)) (λ_ i _=>N-(intOf i).toNat)
 case atStart=>exact⟨0,rfl,jb,by rw[H0.out];exact ng.nil _ _ _ _ _,Below.refl _ _,jx λ_=>rfl⟩
 case round=>
  obtain⟨k,rfl,hk,hown,hbel,HNV⟩:=hrel;have HO:=jx hown;have HBR:=jx hbel;have hsz:=hbel.size;by_cases hlt:k<N
  .obtain⟨b,off,rfl,-,-,-⟩:=HSL.out.get jb;have e0:=HSL.out.cellAt rfl hbel (i:=k) (j:=0) hlt jb;have e1:wr.cell? ⟨b,off+k*5+1,none⟩=some (Value.bool (ix fl k).b):=HSL.out.cellAt rfl hbel (i:=k) (j:=1) hlt jb;have e2:wr.cell? ⟨b,off+k*5+2,none⟩=some (Value.bool (ix fl k).a.n):=HSL.out.cellAt rfl hbel (i:=k) (j:=2) hlt jb;have e3:wr.cell? ⟨b,off+k*5+3,none⟩=some (Value.string (ix fl k).a.s):=HSL.out.cellAt rfl hbel (i:=k) (j:=3) hlt jb;have e4:wr.cell? ⟨b,off+k*5+4,none⟩=some (Value.string (ix fl k).a.d):=HSL.out.cellAt rfl hbel (i:=k) (j:=4) hlt jb;rw[cy]at e0;have e0':wr.cell? ⟨b,off+k*5,none⟩=some (Value.int .i64 (ix fl k).k):=e0;have HYK:=jx (HY.out k jb);have HNK:=jx (HN.out k jb);have hlk:=HL.out k;have i1:(0:Int)<=(k:Int):=jb;have i2:(k:Int)<(N:Int):=jb;clear e0 hown hbel HY HN HL HM;generalize ay8:MK (k+1)=M1 at*;have HM1:=jx ay8;generalize aBL:MK k=M0 at*;clear ay8 aBL;generalize (ix fl k).k=x at*;generalize (ix fl k).b=pb at*;generalize (ix fl k).a.n=an at*;generalize (ix fl k).a.s=as' at*;generalize (ix fl k).a.d=ad at*;by_cases hx:x=-1
   .have h1:(x !=-1)=false:=by simp[hx]
    have HX:=jx (HNK.out hx);clear HYK HNK;go_wp2;go_roundw
    case rel=>exact⟨k+1,by go_num,jb,by rw[HM1.out,HX.out];exact HO.out.below ((Below.refl _ _).alloc jp _) jp,HBR.out.alloc jb _,jx λh=>HNV.out (by rwa[HM1.out,HX.out]at h)⟩
    case measure=>simp[intOf];omega
   .have h1:(x !=-1)=true:=by simp[hx]
    have HX:=jx (HYK.out hx);have HO2:=jx (HO.out.below ((Below.refl wr.heap.size wr).alloc jp (.cells #[.int .i64 x,.bool pb,.bool an,.string as',.string ad] 134)) jp);have hz2:(wr.alloc (.cells #[.int .i64 x,.bool pb,.bool an,.string as',.string ad] 134)).heap.size=wr.heap.size+1:=by simp
    clear HYK HNK;go_wp2_with (refine O7 _ _ 60 3 1 8 w1.heap.size _ _ _ [.int .i64 x] (by rfl) (by rfl) Tryz.underlying60 an9 jb (by rfl) (by rfl) (by simp[Value.oneCell']) (by rw[World.size_alloc];rfl) HO2.out jb jb (by rw[World.size_alloc];omega) ?_;intro v9 w9 ho9 hb9;have HO9:=jx ho9;have HB9:=jx hb9;clear ho9 hb9)
    go_roundw
    case rel=>
     refine⟨k+1,by go_num,jb,?_,(HBR.out.alloc jb _).trans HB9.out,jx λh=>by rw[HM1.out,HX.out]at h;simp at h⟩;rw[HM1.out,HX.out,az];exact HO9.out.congr λj hj=>apz _ _ j hj
    case measure=>simp[intOf];omega
  .obtain rfl:k=N:=jb;have hnl:decide ((k:Int)<(k:Int))=false:=by simp
   have hlk:=HL.out k;have HST:=jx (akA wr w1.heap.size u3 (MK k) hown jb jb);go_wp2_with fail;refine HST.out.mono ?_;rintro e w2 ⟨rfl,l2,hl2,hm2,ho2,hb2,hs2⟩;have HCP:=jx (Zw w2 w1.heap.size u3 l2 ho2 jb);have HB2:=jx (HBR.out.trans hb2);have HM2:=jx hm2;have HS2:=jx hs2;clear ho2 hb2 HST hm2 hown hbel hs2;go_wp2_with fail;refine HCP.out.mono ?_;rintro e w3 ⟨v3,l3,rfl,hl3,hm3,ho3,hb3,hc3,hn3⟩;have HO3:=jx ho3;have HM3:=jx hm3;have HB3:=jx (HB2.out.trans hb3);have HC3:=jx hc3;have HN3:=jx hn3;clear ho3 hm3 hb3 hc3 hn3;go_wp2;go_ret;exact⟨_,l3,rfl,jb,λc=>by rw[HM3.out,HM2.out,HM.out],HO3.out.mono jb,chain HB.out HB3.out jp,by rw[HC3.out,HS2.out,HML.out],λh=>HN3.out (HNV.out (List.eq_nil_iff_forall_not_mem.mpr λx hx=>by have:=(HM3.out x).mpr ((HM2.out x).mpr hx);rw[h]at this;cases this))⟩
end Go.Proofs.Ins
namespace Go.Proofs.Xe
open Go.RowKit Go.Proofs.Ins
theorem Zy:∀l:List Int,ones l.length (λi=>B.int .i64 (ix l i))=l.map (B.int .i64)
 |[]=>rfl
 |x::l=>by show [B.int .i64 x]++bf l.length (λi=>[B.int .i64 (ix l i)])=_;have:=Zy l;unfold ones at this;rw[this];rfl
theorem Zz(φ:Ph):∀l:List Int,lX φ (l.map (B.int .i64)) (l.map (Value.int .i64))
 |[]=>trivial
 |_::l=>⟨rfl,Zz φ l⟩
def akC(l:List Int)(J:St):Option (V×St):=if l.length=0 then some (.c .aQ,J)else some (.c (.sl J.aj 0 l.length .opn),⟨hset J.h J.aj ⟨ones l.length (λi=>.int .i64 (ix l i)),some (1,3)⟩,J.aj+1⟩)
def aev{φ:Ph}:∀{n:Nat}{G:Nat->List B}{F:Nat->List Value},(∀i,i<n->lX φ (G i) (F i))->lX φ (bf n G) ((List.range n).flatMap F)
 |0,_,_,_=>trivial
 |n+1,G,F,h=>by rw[List.range_succ_eq_map,gg,ie];exact lX.append (h 0 jb) (aev λi hi=>h (i+1) jb)
def akD(l:List yQ)(J:St):Option (V×St):=if l.length=0 then some (.c .aQ,J)else some (.c (.sl J.aj 0 l.length .opn),⟨hset J.h J.aj ⟨bf l.length λi=>AU (ix l i),some (5,134)⟩,J.aj+1⟩)
noncomputable section
open Classical in
def akE(args:List V)(J:St):Option (V×St):=match args with
 |[.agg [v]]=>if h:∃a,dQ (λ_=>True) J.h v a/\a.length<=1000000/\a.flatten.length<=1000000 then akC (yC (Classical.choose h)) J else none
 |_=>none
open Classical in
def akF(args:List V)(J:St):Option (V×St):=match args with
 |[.c v]=>if h:∃a,dQ (λ_=>True) J.h v a/\a.length<=1000000/\a.flatten.length<=1000000 then akD (Classical.choose h).flatten J else none
 |_=>none
def ag9(f:Nat)(args:List V)(J:St):Option (V×St):=
 if f=257 then akF args J
 else if f=168 then akE args J
 else none
end
def apD{p:Nat->Prop}{J:St}{v:B}{a:fD}(ha:dQ p J.h v a)(h1:a.length<=1000000)(h2:a.flatten.length<=1000000):akE [.agg [v]] J=akC (yC a) J:=by
 have h:∃a,dQ (λ_=>True) J.h v a/\a.length<=1000000/\a.flatten.length<=1000000:=⟨a,ha.keep (λ_ _=>rfl) λ_ _=>trivial,h1,h2⟩
 unfold akE;dsimp only;rw[dif_pos h,(Classical.choose_spec h).1.uniq ha]
def akG{args:List V}{J J':St}{v:V}(h:akE args J=some (v,J')):∃t a,args=[.agg [t]]/\akC (yC a) J=some (v,J')/\dQ (λ_=>True) J.h t a/\a.length<=1000000/\a.flatten.length<=1000000:=by
 unfold akE at h;split at h
 .next t=>
  split at h
  .grind
  .cases h
 .cases h
def apE{p:Nat->Prop}{J:St}{v:B}{a:fD}(ha:dQ p J.h v a)(h1:a.length<=1000000)(h2:a.flatten.length<=1000000):akF [.c v] J=akD a.flatten J:=by
 have h:∃a,dQ (λ_=>True) J.h v a/\a.length<=1000000/\a.flatten.length<=1000000:=⟨a,ha.keep (λ_ _=>rfl) λ_ _=>trivial,h1,h2⟩
 unfold akF;dsimp only;rw[dif_pos h,(Classical.choose_spec h).1.uniq ha]
def akH{args:List V}{J J':St}{v:V}(h:akF args J=some (v,J')):∃t a,args=[.c t]/\akD a.flatten J=some (v,J')/\dQ (λ_=>True) J.h t a/\a.length<=1000000/\a.flatten.length<=1000000:=by
 unfold akF at h;split at h
 .next t=>
  split at h
  .grind
  .cases h
 .cases h
def Gp{φ:Ph}{aV:Array Value}{x:V}(h:BA φ [x] aV.toList):∃u,aV= #[u]/\RV φ x u:=by
 obtain⟨l⟩:=aV;match l,h with
 |[u],h=>exact⟨u,rfl,h.1⟩
def apG(f:Nat)(args:List V)(J:St)(v:V)(J':St)(h:ag9 f args J=some (v,J')):okF Tryz.prog f/\∀(N:Nat) (w0:World) (φ:Ph) (w:World) (aV:Array Value),Rel N w0 φ J w->BA φ args aV.toList->
  Calls Tryz.prog f aV w λe w'=>∃cv,e=.returned cv/\∃φ',Ext J.aj φ φ'/\Rel N w0 φ' J' w'/\RV φ' v cv/\J.aj<=J'.aj:=by
 unfold ag9 at h
 split at h
 .next e=>
  subst e
  obtain⟨t,a,rfl,h3,h1,la,lf⟩:=akH h
  refine⟨xu (by kernel_rfl),λN w0 φ w aV hR ha=>?_⟩
  obtain⟨u,rfl,hu⟩:=Gp ha
  refine(Ju (InW w) u a w (h1.un hR hu) jb lf).mono ?_
  rintro e w' ⟨v',rfl,ho,hb,hz⟩
  generalize a.flatten=l at*
  unfold akD at h3
  split at h3
  .next h0=>
   cases h3
   exact⟨_,rfl,φ,Ext.refl _ _,hR.below hb,hz h0,jp⟩
  .next h0=>
   cases h3
   obtain⟨⟨-,h4⟩,-⟩:=ho
   rcases h4 with⟨-,h4⟩|⟨c,cap,cur,rfl,hc,hg,hnc,hm,hs,hx⟩
   .omega
   .have hN:J.new ⟨bf l.length λi=>AU (ix l i),some (5,134)⟩=some (J.aj,⟨hset J.h J.aj ⟨bf l.length λi=>AU (ix l i),some (5,134)⟩,J.aj+1⟩):=lZ _ _
    have hol:(bf l.length λi=>AU (ix l i)).length=l.length*5:=lS λ_=>rfl
    have hcl:c<w'.heap.size:=(fa.mp hg).1
    refine⟨_,rfl,_,yL φ J.aj (c,cap),(hR.below hb).new hN (w':=w') ⟨rfl,rfl,rfl,jp,λ_ _ _=>rfl⟩ (ar hR.size hc) hcl (λi p hi _ e=>?_) (.inl ⟨F5 jj,cur,134,hg,?_,?_,λe t he=>?_⟩),.inl ⟨(c,cap),cap,iE _ _ _,rfl,hnc,?_,rfl,rfl⟩,by simp⟩
    .have:=hR.lo i p hi
     omega
    .show lX φ (bf l.length λi=>AU (ix l i)) (cur.toList.take (bf l.length λi=>AU (ix l i)).length)
     rw[hol,hx]
     exact aev λi _=>⟨rfl,rfl,rfl,rfl,rfl,trivial⟩
    .grind
    .grind
    grind[maxLen]
 .split at h
  .next e=>
   subst e
   obtain⟨t,a,rfl,h3,h1,la,lf⟩:=akG h
   refine⟨xu (by kernel_rfl),λN w0 φ w aV hR ha=>?_⟩
   obtain⟨u,rfl,hu⟩:=Gp ha
   obtain⟨r,rfl,hr⟩:=hu
   obtain⟨rl⟩:=r
   match rl,hr with
   |[tv],⟨ht,_⟩=>
    refine(Zx (InW w) tv a w (h1.un hR ht) jb lf).mono ?_
    rintro e w' ⟨v',l,rfl,-,-,ho,hb,hl,hn⟩
    rw[<-hl]at h3
    unfold akC at h3
    split at h3
    .next h0=>
     cases h3
     exact⟨_,rfl,φ,Ext.refl _ _,hR.below hb,hn (eo h0),jp⟩
    .next h0=>
     cases h3
     obtain⟨⟨-,h4⟩,-⟩:=ho
     rcases h4 with⟨-,h4⟩|⟨c,cap,cur,rfl,hc,hg,hnc,hm,hs,hx⟩
     .omega
     .have hN:J.new ⟨ones l.length (λi=>.int .i64 (ix l i)),some (1,3)⟩=some (J.aj,⟨hset J.h J.aj ⟨ones l.length (λi=>.int .i64 (ix l i)),some (1,3)⟩,J.aj+1⟩):=lZ _ _
      rw[aes,eN]at hx
      have hol:(ones l.length λi=>B.int .i64 (ix l i)).length=l.length:=by grind[Qi]
      have hcl:c<w'.heap.size:=(fa.mp hg).1
      refine⟨_,rfl,_,yL φ J.aj (c,cap),(hR.below hb).new hN (w':=w') ⟨rfl,rfl,rfl,jp,λ_ _ _=>rfl⟩ (ar hR.size hc) hcl (λi p hi _ e=>?_) (.inl ⟨F5 jj,cur,3,hg,?_,?_,λe t he=>?_⟩),.inl ⟨(c,cap),cap,iE _ _ _,rfl,hnc,?_,rfl,rfl⟩,by simp⟩
      .have:=hR.lo i p hi
       omega
      .grind[Zy,Zz]
      .grind
      .grind
      grind[maxLen]
  .cases h
def aha(f:Nat)(args:List V)(J:St):Option (V×St):=ag9 f args J
def apI(f:Nat)(args:List V)(J:St)(v:V)(J':St)(h:aha f args J=some (v,J')):okF Tryz.prog f/\∀(N:Nat) (w0:World) (φ:Ph) (w:World) (aV:Array Value),Rel N w0 φ J w->BA φ args aV.toList->
  Calls Tryz.prog f aV w λe w'=>∃cv,e=.returned cv/\∃φ',Ext J.aj φ φ'/\Rel N w0 φ' J' w'/\RV φ' v cv/\J.aj<=J'.aj:=apG f args J v J' h
abbrev apJ:List Nat:=[340
 ,324
 ,251
 ,176
 ,267
 ,177
 ,252
 ,268
 ,253
 ,254
 ,60
 ,74
 ,33
 ,178
 ,242
 ,145
 ,160
 ,278
 ,161
 ,72
 ,175
 ,133
 ,180
 ,179
 ,99
 ,86
 ,199
 ,197
 ,83
 ,59
 ,85
 ]
def ahb:Nat->List V->St->Option (V×St):=(Eb apJ).Nw
def WR{f:Nat}(h:apJ.contains f=false)(args:List V)(J:St):ahb f args J=none:=by unfold ahb Eb;dsimp only;rw[h];rfl
class ay9 (E:Env):Prop where
 o:∀f args J r,ahb f args J=some r->E.Nw f args J=some r
instance {E:Env}{f:Nat} [h:ay9 E] [m:Mm f apJ]:jX E f:=⟨λargs v J hv=>h.o f args J _ (by unfold ahb;exact jX.o (E:=Eb apJ) args v J hv)⟩
def WS(f:Nat):Prop:=okF Tryz.prog f/\∀w,Calls Tryz.prog f #[] w λe w'=>e=.returned (.bool true)/\Below w.heap.size w w'
def awN:List Nat:=[
 22,
 1000000]
noncomputable section
open Classical in
def apL(f:Nat)(args:List V)(J:St):Option (V×St):=bif awN.contains f then(match args with|[]=>if WS f then some (.c (.bool true),J)else none|_=>none)else none
def WT(f:Nat)(args:List V)(J:St):Option (V×St):=match ahb f args J with
 |some r=>some r
 |none=>match aha f args J with
  |some r=>some r
  |none=>apL f args J
end
class acC (E:Env):Prop where
 a:∀f args J r,WT f args J=some r->E.Nw f args J=some r
instance {E:Env} [h:acC E]:ay9 E:=⟨λf args J r hv=>h.a f args J r (by unfold WT;rw[hv])⟩
def KY{E:Env}[hE:acC E]{f:Nat}{args:List V}{v:V}{J σ2:St}{K:V->St->Prop}(h:WT f args J=some (v,σ2)):aB E f args J K=K v σ2:=by
 refine propext ⟨λ⟨n,v',J',h1,h2⟩=>?_,λhk=>Y6 (hE.a f args J _ h) hk⟩;have h3:iD E 1 f args J=some (v,σ2):=by rw[iD];unfold Hz;rw[hE.a f args J _ h]
 have a:=oQ (show n<=n+1 by omega) f args J _ h1;have b:=oQ (show 1<=n+1 by omega) f args J _ h3;rw[a]at b;cases b;exact h2
section
variable {E:Env} [acC E] {J:St} {K:V→St→Prop}
def ahc(h:WS 22):aB E 22 [] J K=K (.c (.bool true)) J:=
 KY (by
  unfold WT;rw[WR rfl];first|(unfold aha ag9 apL)|(unfold aha apL)
  simp only[Nat.reduceEqDiff,reduceIte,show awN.contains 22=true from rfl,bB,ab h])
end
end Go.Proofs.Xe
namespace Go.Proofs.Xe
open Go.Proofs
set_option maxRecDepth 1000000
set_option maxHeartbeats 8000000
def EN:Env:=⟨tF Tryz.prog,WT⟩
instance aDr:acC EN:=⟨λ_ _ _ _ h=>h⟩
structure gJ(k:Nat) where
 a:AF
 g:tG Tryz.prog k=some a:=by conv=>(lhs;reduce;simp only[asz])
 i:Wq Tryz.prog k a=true:=by kernel_rfl
 o:∀args J,EN.Nw k args J=none:=by exact λ_ _=>rfl
def gJ.h{k:Nat}(b:gJ k):EN.fns k=some b.a:=asy b.g b.i
def qE:gJ 6:=.mk _
def Il:gJ 9:=.mk _
def vF:gJ 10:=.mk _
def Io:gJ 18:=.mk _
def xA:gJ 19:=.mk _
def vG:gJ 20:=.mk _
def vH:gJ 21:=.mk _
def AV:gJ 23:=.mk _
def rO:gJ 25:=.mk _
def Ip:gJ 34:=.mk _
def Qo:gJ 35:=.mk _
def tJ:gJ 36:=.mk _
def vI:gJ 37:=.mk _
def kX:gJ 38:=.mk _
def l9:gJ 39:=.mk _
def xB:gJ 52:=.mk _
def oC:gJ 53:=.mk _
def xC:gJ 54:=.mk _
def qF:gJ 55:=.mk _
def xE:gJ 56:=.mk _
def vJ:gJ 57:=.mk _
def xG:gJ 58:=.mk _
def qG:gJ 62:=.mk _
def kY:gJ 63:=.mk _
def KZ:gJ 75:=.mk _
def Iq:gJ 76:=.mk _
def tK:gJ 77:=.mk _
def oD:gJ 78:=.mk _
def xH:gJ 79:=.mk _
def iY:gJ 80:=.mk _
def jJ:gJ 81:=.mk _
def kZ:gJ 82:=.mk _
def lq:gJ 84:=.mk _
def qH:gJ 87:=.mk _
def xI:gJ 88:=.mk _
def nJ:gJ 89:=.mk _
def jZ:gJ 90:=.mk _
def vK:gJ 91:=.mk _
def lu:gJ 92:=.mk _
def tN:gJ 93:=.mk _
def nK:gJ 94:=.mk _
def nM:gJ 95:=.mk _
def xJ:gJ 96:=.mk _
def ku:gJ 97:=.mk _
def vM:gJ 98:=.mk _
def fU:gJ 131:=.mk _
def mF:gJ 132:=.mk _
def EM:gJ 134:=.mk _
def mG:gJ 139:=.mk _
def xK:gJ 140:=.mk _
def tX:gJ 141:=.mk _
def tY:gJ 142:=.mk _
def G8:gJ 143:=.mk _
def nN:gJ 147:=.mk _
def oZ:gJ 148:=.mk _
def qI:gJ 149:=.mk _
def kC:gJ 150:=.mk _
def jD:gJ 155:=.mk _
def ji:gJ 163:=.mk _
def jK:gJ 167:=.mk _
def rP:gJ 169:=.mk _
def pz:gJ 170:=.mk _
def xM:gJ 171:=.mk _
def mJ:gJ 172:=.mk _
def nO:gJ 173:=.mk _
def nP:gJ 174:=.mk _
def iG:gJ 181:=.mk _
def kD:gJ 182:=.mk _
def uf:gJ 183:=.mk _
def xO:gJ 184:=.mk _
def ug:gJ 185:=.mk _
def lC:gJ 186:=.mk _
def yS:gJ 187:=.mk _
def kF:gJ 188:=.mk _
def qJ:gJ 189:=.mk _
def vN:gJ 190:=.mk _
def xP:gJ 191:=.mk _
def yT:gJ 192:=.mk _
def uh:gJ 193:=.mk _
def fH:gJ 194:=.mk _
def yU:gJ 195:=.mk _
def jE:gJ 196:=.mk _
def mM:gJ 198:=.mk _
def gZ:gJ 225:=.mk _
def DX:gJ 226:=.mk _
def pW:gJ 227:=.mk _
def iZ:gJ 228:=.mk _
def ND:gJ 229:=.mk _
def kJ:gJ 230:=.mk _
def jL:gJ 232:=.mk _
def nY:gJ 234:=.mk _
def jM:gJ 235:=.mk _
def uj:gJ 236:=.mk _
def dJ:gJ 237:=.mk _
def qL:gJ 238:=.mk _
def um:gJ 239:=.mk _
def yV:gJ 240:=.mk _
def EO:gJ 241:=.mk _
def lF:gJ 245:=.mk _
def iH:gJ 246:=.mk _
def rQ:gJ 247:=.mk _
def jw:gJ 256:=.mk _
def lH:gJ 260:=.mk _
def gB:gJ 261:=.mk _
def lI:gJ 262:=.mk _
def lJ:gJ 269:=.mk _
def lK:gJ 270:=.mk _
def xQ:gJ 271:=.mk _
def xR:gJ 272:=.mk _
def yX:gJ 273:=.mk _
def uo:gJ 274:=.mk _
def dO:gJ 275:=.mk _
def vO:gJ 276:=.mk _
def rU:gJ 277:=.mk _
def mO:gJ 279:=.mk _
def jc:gJ 280:=.mk _
def mP:gJ 294:=.mk _
def dR:gJ 295:=.mk _
def ig:gJ 296:=.mk _
def jB:gJ 297:=.mk _
def yY:gJ 309:=.mk _
def xU:gJ 310:=.mk _
def pF:gJ 311:=.mk _
def nR:gJ 312:=.mk _
def nS:gJ 313:=.mk _
def oG:gJ 314:=.mk _
def nT:gJ 315:=.mk _
def yZ:gJ 341:=.mk _
def iw:gJ 342:=.mk _
def zi:gJ 343:=.mk _
end Go.Proofs.Xe
end
