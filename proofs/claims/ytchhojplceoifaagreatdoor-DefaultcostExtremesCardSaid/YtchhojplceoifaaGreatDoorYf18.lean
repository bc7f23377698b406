import Derived.Test.YtchhojplceoifaaGreatDoorYf17
import Derived.Deep.DeepCutAuto
import Derived.Deep.CutBlock
import Derived.Deep.RegionHeld3
import Derived.Deep.DrawnRows
import Derived.Deep.LoopGhost
import Derived.Test.YtchhojplceoifaaGreatDoorYf10
import Derived.Test.YtchhojplceoifaaGreatDoorYf15
set_option linter.all false
set_option maxRecDepth 100000
set_option maxHeartbeats 8000000
namespace Go.Proofs.Ins
open Go.RowKit
structure Touch(b:Nat)(w w':World):Prop where
 os:w'.os=w.os
 tape:w'.tape=w.tape
 output:w'.output=w.output
 size:w'.heap.size=w.heap.size
 block:∀k,k≠b->w'.heap[k]?=w.heap[k]?
theorem Touch.refl(b:Nat)(w:World):Touch b w w:=⟨rfl,rfl,rfl,rfl,λ_ _=>rfl⟩
def Touch.trans{b:Nat}{u v w:World}(h:Touch b u v)(k:Touch b v w):Touch b u w:=
 ⟨k.os.trans h.os,k.tape.trans h.tape,k.output.trans h.output,k.size.trans h.size,λi hi=>(k.block i hi).trans (h.block i hi)⟩
def Touch.drewN{b:Nat}{u v:World}(h:Touch b u v)(n:Nat):Touch b u (v.drewN n):=⟨h.os,h.tape,h.output,h.size,h.block⟩
def Touch.setCell{b:Nat}{u v:World}(h:Touch b u v){a:Addr}(ha:a.block=b)(x:Value):Touch b u (v.setCell a x):=
 h.trans ⟨rfl,rfl,rfl,by simp[World.setCell],λk hk=>Below.heap_setCell _ _ _ _ jb⟩
def Touch.below{b B:Nat}{u v w:World}(h:Below B u v)(k:Touch b v w)(hB:B<=b):Below B u w:=
 h.trans ⟨k.os,k.tape,k.output,gx k.size.symm,λi hi=>k.block i jb⟩
def Reads.touch{w w':World}{b c off:Nat}{k:IntKind}{n:Nat}{f:Nat->Nat}(h:Reads w b off k n f)(ht:Touch c w w')(hb:b≠c):Reads w' b off k n f:=h.block (ht.block b hb)
def Row.touch{w w':World}{b c:Nat}{T:TypeId}{k:IntKind}{n:Nat}{f:Nat->Nat}(h:Row w b T k n f)(ht:Touch c w w')(hb:b≠c):Row w' b T k n f:=h.block (ht.block b hb)
def xQ(w:World)(a b:Nat):(w.drewN a).drewN b=w.drewN (a+b):=by unfold World.drewN;simp only[Nat.add_assoc]
structure MN(n off N:Nat)(G d:Nat->Nat):Prop where
 n2:2<=n
 fits:off+n+1<=N
 big:N<=1073741826
 lG:∀j,j<N->G j<LB
 lD:∀j,j<n->d j<LB
 norm:LB<=2*d (n-1)
 less:wv G off (n+1)<lv d n*LB
def MN.azn{n off N:Nat}{G d:Nat->Nat}(h:MN n off N G d):
  JX (wv G off (n+1)) (lv d n) (G (off+n)*LB+G (off+(n-1))) (G (off+(n-2))) (d (n-1)) (d (n-2)) (LB^(n-2)):=by
 obtain⟨m,rfl⟩:∃m,n=m+2:=⟨n-2,by have:=h.n2;omega⟩
 have hfit:=h.fits
 have f1:=h.lG (off+m) jb
 have f2:=h.lD m jb
 have f3:=h.less
 have f4:=h.norm
 have hp:0<LB^m:=dq lT
 have e1:m+2-1=m+1:=jb
 have e2:m+2-2=m:=jb
 rw[e1]at f4
 rw[e1,e2]
 have g1:wv G off (m+2+1)=wv G off m+LB^m*G (off+m)+LB^m*LB*G (off+(m+1))+LB^m*LB*LB*G (off+(m+2)):=by rw[vC,vC,vC,dC LB (m+1),dC LB m]
 have g2:lv d (m+2)=lv d m+LB^m*d m+LB^m*LB*d (m+1):=by rw[gI,gI,dC]
 have g3:=ai9 (off:=off) (k:=m) h.lG jb
 have g4:=KL (f:=d) (n:=m) (λj hj=>h.lD j jb)
 have hLB:=lT
 refine⟨hp,by unfold LB at f4;omega,f1,f2,?_,?_,?_,?_,f3,f4⟩
 .rw[g1];generalize LB^m=p at*;grind
 .rw[g1];generalize LB^m=p at*;grind
 .rw[g2];generalize LB^m=p at*;grind
 .rw[g2];generalize LB^m=p at*;grind
def anV(w:World)(T:TypeId)(bu off N n:Nat)(G d:Nat->Nat)(e:Ending)(w':World):Prop:=
 ∃G',e=.returned (.int .u32 ((wv G off (n+1)/lv d n:Nat):Int))/\Row w' bu T .u32 N G'/\(∀j,j<N->G' j<LB)/\
  (∀j,(j<off\/off+n+1<=j)->G' j=G j)/\wv G' off (n+1)=wv G off (n+1)%lv d n/\Touch bu w w'
def anW(g v c:Nat)(hg:g<LB)(hv:v<LB)(hc:c<LB):
  (0:Int)<=(g:Int)*v/\(g:Int)*v<=18446744065119617025/\(g:Int)*v+c<=18446744073709551615/\((((g:Int)*v+c)%4294967296)=(((g*v+c)%LB:Nat):Int))/\((((g:Int)*v+c)/4294967296)=(((g*v+c)/LB:Nat):Int))/\
   (g*v+c)%LB<LB/\(g*v+c)/LB<LB:=by
 have h1:g*v<=4294967295*4294967295:=cH (by unfold LB at hg;omega) (by unfold LB at hv;omega)
 have h2:((g:Int)*v)=((g*v:Nat):Int):=by rw[eC]
 rw[h2]
 generalize g*v=p at*
 unfold LB at*
 omega
def ada(x y b:Nat):brw x y b=((if x<y+b then 1 else 0:Nat):Int):=by
 unfold brw;by_cases h:x<y+b
 .rw[ae h,ae jb];rfl
 .rw[ab h,ab jb];rfl
def afF(bu off N n cu bd od cd:Nat)(G d:Nat->Nat)(w:World)(hp:MN n off N G d)(hG:Row w bu 177 .u32 N G)(hD:Reads w bd od .u32 n d)(hne:bd≠bu):
  Calls Tryz.prog 208 #[.slice (some ⟨bu,off,none⟩) (n+1) cu,.slice (some ⟨bd,od,none⟩) n cd] w (anV w 177 bu off N n G d):=by
 have ht:=hp.azn
 have hn2:=hp.n2
 have hbig:=hp.big
 have hfit:=hp.fits
 have cu0:=hG.cell (j:=off+n) jb
 have cu1:=hG.cell (j:=off+(n-1)) jb
 have cd1:=hD (n-1) jb
 have lu0:=hp.lG (off+n) jb
 have lu1:=hp.lG (off+(n-1)) jb
 have lu2:=hp.lG (off+(n-2)) jb
 have ld1:=hp.lD (n-1) jb
 have ld2:=hp.lD (n-2) jb
 have cu2:=hG.cell (j:=off+(n-2)) jb
 have cd2:=hD (n-2) jb
 have HP:=jx hp
 have HG:=jx hG
 have HD:=jx hD
 clear hp hG hD
 generalize G (off+n)=u0 at*
 generalize G (off+(n-1))=u1 at*
 generalize G (off+(n-2))=u2 at*
 generalize d (n-1)=d1 at*
 generalize d (n-2)=d2 at*
 obtain⟨top,htop⟩:∃top,top=u0*LB+u1:=⟨_,rfl⟩
 have hor:=abm u0 u1 lu0 lu1
 rw[<-htop]at hor ht
 clear htop
 have hst:=ht.start
 have hd1:=ht.d_pos
 have hg1:=ht.small hst
 have hr1:top%d1<d1:=di _ hd1
 have t1:(top:Int).tdiv d1=((top/d1:Nat):Int):=by rw[gd jb,ir]
 have t2:(top:Int).tmod d1=((top%d1:Nat):Int):=by rw[iz jb,Int.natCast_emod]
 generalize top/d1=g0 at*
 generalize top%d1=r0 at*
 have HT:=jx ht
 have HST:=jx hst
 clear ht hst
 have b0:(u0:Int)<=4294967295:=by unfold LB at lu0;omega
 have b1:(u1:Int)<=4294967295:=by unfold LB at lu1;omega
 have b3:(d1:Int)<=4294967295:=by unfold LB at ld1;omega
 have b4:(0:Int)<(d1:Int):=jb
 have b5:(d2:Int)<=4294967295:=by unfold LB at ld2;omega
 have b6:(u2:Int)<=4294967295:=by unfold LB at lu2;omega
 have b7:(g0:Int)<=4294967297:=by unfold LB at hg1;omega
 have b8:(r0:Int)<=4294967294:=jb
 have q1:IntKind.i64.wrap ((n:Int)-1)=(n:Int)-1:=IntWalk.i64_in _ jb
 have q2:((n:Int)-1).toNat=n-1:=jb
 have q3:(1:Int)<=n:=jb
 have q5:¬d1=0:=jb
 have q6:IntKind.u64.wrap (g0:Int)=g0:=IntWalk.u64_in _ jb
 have q7:IntKind.u64.wrap (r0:Int)=r0:=IntWalk.u64_in _ jb
 have q8:IntKind.i64.wrap ((n:Int)-2)=(n:Int)-2:=IntWalk.i64_in _ jb
 have q9:((n:Int)-2).toNat=n-2:=jb
 have q10:(2:Int)<=n:=jb
 go_enter Tryz.func208,Tryz.ntmps208
 go_wp2_with fail
 refine wp_region_quiet_lit (by kernel_rfl) (by kernel_rfl) ?_
 repeat(first|go_big_quiet_skip|(refine wpQuiet_step (λK hK=>?_);go_simp;(try simp(disch:=omega) only[ar9]);(first|(refine hK _ ?_;clear hK K)|(simp(disch:=omega) only[ae,dif_pos,ab,dif_neg,ar9];go_simp;refine hK _ ?_;clear hK K))))
 refine wpQuiet_nil ?_
 intro _ Vw
 obtain⟨nq,Vw⟩:=Vw
 subst Vw
 go_wp2_with fail
 refine wp_region_quiet_lit (by kernel_rfl) (by kernel_rfl) ?_
 repeat(first|go_big_quiet_skip|(refine wpQuiet_step (λK hK=>?_);go_simp;(try simp(disch:=omega) only[ar9]);(first|(refine hK _ ?_;clear hK K)|(simp(disch:=omega) only[ae,dif_pos,ab,dif_neg,ar9];go_simp;refine hK _ ?_;clear hK K))))
 refine wpQuiet_nil ?_
 intro _ Vw
 obtain⟨nq,Vw⟩:=Vw
 subst Vw
 go_upto_block 0 with(fail)
 go_cut [7,8] (λg _ wx=>∃gg:Nat,g=.int .u64 gg/\Hid (gg<LB/\gg<=wv G off (n+1)/lv d n+1/\wv G off (n+1)/lv d n<=gg)/\∃q,wx=w.drewN q)
 case first=>
  go_wp2_with fail;go_loopw [7,8] (λg r wx=>∃gg rr:Nat,g=.int .u64 gg/\r=.int .u64 rr/\Hid (Tq (wv G off (n+1)) (lv d n) top u2 d1 d2 (LB^(n-2)) gg rr)/\rr<LB/\∃q,wx=w.drewN q) (λg _ _=>(intOf g).toNat)
  case atStart=>exact⟨g0,r0,rfl,rfl,HST.out,jb,_,(by first|rfl|exact xQ _ _ _)⟩
  case round=>
   obtain⟨g,r,rfl,rfl,hgs,hr,q,rfl⟩:=hrel;clear hor t1 t2 q6 q7 b7 b8 hg1 hr1;have hgl:=HT.out.small hgs.out;have c1:(g:Int)<=4294967297:=by unfold LB at hgl;omega
   have c2:(r:Int)<=4294967295:=by unfold LB at hr;omega
   by_cases hA:LB<=g
   .as_aux_lemma=>
    have hlow:=HT.out.lower hgs.out (.inl hA);have hA':(4294967296:Int)<=g:=by unfold LB at hA;omega
    have HL:=jx hlow.2;have hg0:(1:Int)<=g:=jb;clear hlow hA;go_wp2_with fail;refine wp_region_quiet_lit (by kernel_rfl) (by kernel_rfl) ?_;repeat(first|go_big_quiet_skip|(refine wpQuiet_step (λK hK=>?_);go_simp;(try simp(disch:=omega) only[ar9]);(first|(refine hK _ ?_;clear hK K)|(simp(disch:=omega) only[ae,dif_pos,ab,dif_neg,ar9];go_simp;refine hK _ ?_;clear hK K))))
    refine wpQuiet_nil ?_;intro _ Vw;obtain⟨nq,Vw⟩:=Vw;subst Vw;by_cases hbr:LB<=r+d1
    .have as7:(4294967296:Int)<=(r:Int)+d1:=by unfold LB at hbr;omega
     have hdn:=HT.out.done HL.out (.inr hbr);have HDN:=jx hdn;clear hdn hbr;go_wp2_with fail;go_meet;exact⟨g-1,by go_num,⟨HDN.out.1,HDN.out.2,HL.out.ge⟩,_,(by first|rfl|exact xQ _ _ _)⟩
    .have as7:decide ((4294967296:Int)<=(r:Int)+d1)=false:=by unfold LB at hbr;simp;omega
     have hlt:r+d1<LB:=jb;clear hbr;go_wp2_with fail;go_roundw
     case rel=>exact⟨g-1,r+d1,by go_num,by go_num,HL.out,hlt,_,(by first|rfl|exact xQ _ _ _)⟩
     case measure=>simp[intOf];omega
   .have hA':decide ((4294967296:Int)<=(g:Int))=false:=by unfold LB at hA;simp;omega
    have hgm:(g:Int)<=4294967295:=by unfold LB at hA;omega
    obtain⟨P,hP⟩:∃P,P=g*d2:=⟨_,rfl⟩
    obtain⟨Q,hQ⟩:∃Q,Q=r*LB+u2:=⟨_,rfl⟩
    have hPl:P<=4294967295*4294967295:=by rw[hP];exact cH jb jb
    have p1:IntKind.u64.wrap ((g:Int)*(d2:Int))=(P:Int):=by rw[<-eC,<-hP];exact IntWalk.u64_in _ jb
    have p2:=abm r u2 hr lu2;rw[<-hQ]at p2;by_cases hB:Q<P
    .as_aux_lemma=>
     have hlow:=HT.out.lower hgs.out (.inr (by rw[<-hP,<-hQ];exact hB));have hB':(Q:Int)<P:=jb;have HL:=jx hlow.2;have hg0:(1:Int)<=g:=by have:=hlow.1;omega
     clear hlow hA hB hP hQ hPl;go_wp2_with fail;refine wp_region_quiet_lit (by kernel_rfl) (by kernel_rfl) ?_;repeat(first|go_big_quiet_skip|(refine wpQuiet_step (λK hK=>?_);go_simp;(try simp(disch:=omega) only[ar9]);(first|(refine hK _ ?_;clear hK K)|(simp(disch:=omega) only[ae,dif_pos,ab,dif_neg,ar9];go_simp;refine hK _ ?_;clear hK K))))
     refine wpQuiet_nil ?_;intro _ Vw;obtain⟨nq,Vw⟩:=Vw;subst Vw;by_cases hbr:LB<=r+d1
     .have as7:(4294967296:Int)<=(r:Int)+d1:=by unfold LB at hbr;omega
      have hdn:=HT.out.done HL.out (.inr hbr);have HDN:=jx hdn;clear hdn hbr;go_wp2_with fail;go_meet;exact⟨g-1,by go_num,⟨HDN.out.1,HDN.out.2,HL.out.ge⟩,_,(by first|rfl|exact xQ _ _ _)⟩
     .have as7:decide ((4294967296:Int)<=(r:Int)+d1)=false:=by unfold LB at hbr;simp;omega
      have hlt:r+d1<LB:=jb;clear hbr;go_wp2_with fail;go_roundw
      case rel=>exact⟨g-1,r+d1,by go_num,by go_num,HL.out,hlt,_,(by first|rfl|exact xQ _ _ _)⟩
      case measure=>simp[intOf];omega
    .as_aux_lemma=>
     have hB':decide (Q<P)=false:=by simp;omega
     have hdn:=HT.out.done hgs.out (.inl ⟨jb,by rw[<-hP,<-hQ];omega⟩);have HDN:=jx hdn;clear hdn hA hB hP hQ hPl;go_wp2_with fail;refine wp_region_quiet_lit (by kernel_rfl) (by kernel_rfl) ?_;repeat(first|go_big_quiet_skip|(refine wpQuiet_step (λK hK=>?_);go_simp;(try simp(disch:=omega) only[ar9]);(first|(refine hK _ ?_;clear hK K)|(simp(disch:=omega) only[ae,dif_pos,ab,dif_neg,ar9];go_simp;refine hK _ ?_;clear hK K))))
     refine wpQuiet_nil ?_;intro _ Vw;obtain⟨nq,Vw⟩:=Vw;subst Vw;go_wp2_with fail;go_meet;exact⟨g,rfl,⟨HDN.out.1,HDN.out.2,hgs.out.ge⟩,_,(by first|rfl|exact xQ _ _ _)⟩
 case rest=>
  obtain⟨g,rfl,hg,q,rfl⟩:=hcut;clear hor t1 t2 q6 q7 b7 b8 hg1 hr1 HST cu0 cu1 cu2 cd1 cd2 q1 q2 q3 q5 q8 q9 q10;have hgl:=hg.out.1;go_wp2_with fail;go_loopw [9,10,84] (λc b i wx=>∃k C B:Nat,i=.int .i64 k/\k<=n/\c=.int .u64 (C:Int)/\b=.int .u32 (B:Int)/\(∃G',O5 N off g k C B d G G'/\Row wx bu 177 .u32 N G')/\Touch bu w wx) (λ_ _ i _=>n-(intOf i).toNat)
  case atStart=>exact⟨0,0,0,rfl,jb,rfl,rfl,⟨G,abe HP.out.lG,HG.out.drewN q⟩,(Touch.refl _ _).drewN q⟩
  case round=>
   obtain⟨k,C,B,rfl,hk,rfl,rfl,⟨G',hms,hrow⟩,Vx⟩:=hrel;have hC:=hms.awU;have hB:=hms.azl;by_cases hlt:k<n
   .as_aux_lemma=>
    have hcd:=(HD.out.touch Vx hne) k hlt;have hcu:=hrow.cell (j:=off+k) jb;have hfr:=hrow.frozen (off+k);have dk:=HP.out.lD k hlt;have xk:=hms.lt (off+k) jb;obtain⟨v1,v2,v3,v4,v5,v6,v7⟩:=anW g (d k) C hgl dk hC;have hbd:=IW xk v6 hB;have hst:=afB hms hgl dk jb rfl hbd.2.2 hbd.2.1;have HST:=jx hst;have HBD:=jx hbd.1;have HBW:=jx (ada (G' (off+k)) ((g*d k+C)%LB) B);have uS:=jx hrow;have HV4:=jx v4;have HV5:=jx v5;clear hst hbd hrow hms v4 v5;have x1:(G' (off+k):Int)<=4294967295:=by unfold LB at xk;omega
    have x2:(B:Int)<=1:=jb;have x3:(d k:Int)<=4294967295:=by unfold LB at dk;omega
    have x4:(C:Int)<=4294967295:=by unfold LB at hC;omega
    have x5:(g:Int)<=4294967295:=by unfold LB at hgl;omega
    go_wp2_with (go_at_call 199;refine(AV _ _ _ _ jb x1 jb jb jb x2).mono ?_;rintro e w' ⟨rfl,rfl⟩)
    go_roundw
    case rel=>
     rw[HV4.out,HV5.out];refine⟨k+1,_,_,by go_num,jb,rfl,by rw[HBW.out],⟨_,HST.out,?_⟩,Vx.setCell rfl _⟩;rw[HBD.out];exact uS.out.set _ _
    case measure=>simp[intOf];omega
   .obtain rfl:k=n:=jb;have hcu:=hrow.cell (j:=off+k) jb;have hfr:=hrow.frozen (off+k);have xk:=hms.lt (off+k) jb;have x1:(G' (off+k):Int)<=4294967295:=by unfold LB at xk;omega
    have x2:(B:Int)<=1:=jb;have x4:(C:Int)<=4294967295:=by unfold LB at hC;omega
    have x5:(g:Int)<=4294967295:=by unfold LB at hgl;omega
    have HVP:=jx HT.out.ai8;have hbd:=IW xk hC hB;have afG:=ada (G' (off+k)) C B;by_cases hbb:G' (off+k)<C+B
    .rw[ae hbb,fv]at hbd;rw[ae hbb]at afG;have hdk:∃dk,dk=G' (off+k)+LB-C-B:=⟨_,rfl⟩
     obtain⟨dk,hdk⟩:=hdk;rw[<-hdk]at hbd;have hst:=Tv (dk:=dk) hms jb rfl (by rw[ae hbb,fv];exact hbd.2.2) hbd.2.1;rw[ae hbb,fv]at hst;have hq:=abg hg.out.2.1 HVP.out hst.1 (ai9 hst.2.2 jb);have HST:=jx hst;have HBD:=jx hbd.1;have HQ:=jx hq;have hbw:brw (G' (off+k):Int) (C:Int) (B:Int)=1:=afG;have hrow2:=hrow.set (off+k) dk;have uS:=jx hrow2;clear hst hbd hq afG hdk hbb hms hrow2 hrow;as_aux_lemma=>
      have hbd1:=HBD.out
      have hfd:((1:Int)==0)=false:=rfl
      have hg1:(1:Int)<=g:=by have h:=HQ.out.1;generalize wv G off (k+1)/lv d k=y at h;omega
      have hR:wv G off (k+1)%lv d k<LB^(k+1):=by have h1:=di (wv G off (k+1)) HVP.out;have h2:=KL (f:=d) (n:=k) HP.out.lD;have h3:LB^k<=LB^(k+1):=bB lT jb;omega
      have HR:=jx hR
      clear hR
      go_wp2_with (go_at_call 199;refine(AV _ _ _ _ jb x1 jb x4 jb x2).mono ?_;rintro e w' ⟨rfl,rfl⟩)
      clear hbd1 hbw hcu hfr
      go_loopw [14,132] (λc i wy=>∃m C3:Nat,i=.int .i64 m/\m<=k/\c=.int .u32 (C3:Int)/\(∃G3,IX N off m C3 d (upd G' (off+k) dk) G3/\Row wy bu 177 .u32 N G3)/\Touch bu w wy) (λ_ i _=>k-(intOf i).toNat)
      case atStart=>exact⟨0,0,rfl,jb,rfl,⟨_,Yn HST.out.2.2,uS.out⟩,Vx.setCell rfl _⟩
      case round=>
       obtain⟨m,C3,rfl,hm,rfl,⟨G3,hab,hrow3⟩,ajd⟩:=hrel;have hc3:=hab.awV;have z2:(C3:Int)<=1:=jb;by_cases hlt3:m<k
       .as_aux_lemma=>
        have hcd:=(HD.out.touch ajd hne) m hlt3;have hcu:=hrow3.cell (j:=off+m) jb;have hfr:=hrow3.frozen (off+m);have dm:=HP.out.lD m hlt3;have xm:=hab.lt (off+m) jb;have hst:=abh hab dm jb rfl;have aje:=jx hst;have ajf:=jx hrow3;have z1:(G3 (off+m):Int)<=4294967295:=by unfold LB at xm;omega
        have z3:(d m:Int)<=4294967295:=by unfold LB at dm;omega
        have e1:(((G3 (off+m):Int)+d m+C3)%4294967296)=(((G3 (off+m)+d m+C3)%LB:Nat):Int):=by rw[Dh];omega
        have e2:(((G3 (off+m):Int)+d m+C3)/4294967296)=(((G3 (off+m)+d m+C3)/LB:Nat):Int):=by rw[Dh];omega
        have E1:=jx e1;have E2:=jx e2;clear hst hrow3 hab e1 e2;go_wp2_with (go_at_call 161;refine(AY _ _ _ _ jb z1 jb z3 jb z2).mono ?_;rintro e w' ⟨rfl,rfl⟩)
        go_roundw
        case rel=>
         rw[E2.out];refine⟨m+1,_,by go_num,jb,rfl,⟨_,aje.out,?_⟩,ajd.setCell rfl _⟩;rw[E1.out];exact ajf.out.set _ _
        case measure=>simp[intOf];omega
       .as_aux_lemma=>
        obtain rfl:m=k:=jb;have hcu:=hrow3.cell (j:=off+m) jb;have hfr:=hrow3.frozen (off+m);have xm:=hab.lt (off+m) jb;have hst:=abk hab jb rfl HQ.out.2 HR.out;have aje:=jx hst;have ajf:=jx hrow3;have z1:(G3 (off+m):Int)<=4294967295:=by unfold LB at xm;omega
        have e1:(((G3 (off+m):Int)+C3)%4294967296)=(((G3 (off+m)+C3)%LB:Nat):Int):=by rw[Dh];omega
        have E1:=jx e1;have hgq:(g:Int)-1=((wv G off (m+1)/lv d m:Nat):Int):=by have h:=HQ.out.1;generalize wv G off (m+1)/lv d m=y at*;omega
        have HGQ:=jx hgq;clear hst hrow3 hab e1 hgq;go_wp2;go_ret;refine⟨_,by rw[<-HGQ.out];rfl,?_,aje.out.2.2,λj hj=>(aje.out.2.1 j hj).trans (HST.out.2.1 j hj),aje.out.1,ajd.setCell rfl _⟩;have h:=ajf.out.set (off+m) ((G3 (off+m)+C3)%LB);rw[<-E1.out]at h;exact h
    .rw[ab hbb,Nat.mul_zero,cB]at hbd;rw[ab hbb]at afG;have hdk:∃dk,dk=G' (off+k)-C-B:=⟨_,rfl⟩
     obtain⟨dk,hdk⟩:=hdk;rw[<-hdk]at hbd;have hst:=Tv (dk:=dk) hms jb rfl (by rw[ab hbb,Nat.mul_zero,cB];exact hbd.2.2) hbd.2.1;rw[ab hbb,Nat.mul_zero,cB]at hst;have hq:=abf hg.out.2.1 hg.out.2.2 HVP.out hst.1;have HST:=jx hst;have HBD:=jx hbd.1;have HQ:=jx hq;have hbw:brw (G' (off+k):Int) (C:Int) (B:Int)=0:=afG;have hrow2:=hrow.set (off+k) dk;have uS:=jx hrow2;clear hst hbd hq afG hdk hbb hms hrow2 hrow;as_aux_lemma=>
      go_wp2_with (go_at_call 199;refine(AV _ _ _ _ jb x1 jb x4 jb x2).mono ?_;rintro e w' ⟨rfl,rfl⟩)
      go_ret
      refine⟨_,by rw[<-HQ.out.1];rfl,?_,HST.out.2.2,HST.out.2.1,HQ.out.2,Vx.setCell rfl _⟩
      rw[HBD.out]
      exact uS.out
def Vy(w:World)(x y:Nat)(e:Ending)(w':World):Prop:=
 ∃q lq cq r lr cr,e=.returned (.tuple #[.slice q lq cq,.slice r lr cr])/\lq<=cq/\cq<=9223372036854775807/\lr<=cr/\cr<=9223372036854775807/\Limbs w' q lq (x/y)/\Limbs w' r lr (x%y)/\Below w.heap.size w w'
def afH(w:World):Limbs w none 0 0:=⟨λ_=>0,rfl,⟨λj hj=>jb,.inl rfl⟩,.inl rfl⟩
def Yp(ax ay:Option Addr)(lx ly cx cy x y:Nat)(w:World)(hX:Limbs w ax lx x)(hY:Limbs w ay ly y)(hlt:x<y)(h0:lx<=1073741824)(h1:lx<=cx)(h2:cx<=9223372036854775807)(h3:ly<=4294967296):
  Calls Tryz.prog 167 #[.slice ax lx cx,.slice ay ly cy] w (Vy w x y):=by
 have HX:=jx hX
 have HY:=jx hY
 have HL:=jx hlt
 have hcm:decide (rU x y<0)=true:=by rw[zk hlt];rfl
 clear hX hY hlt
 go_enter Tryz.func167,Tryz.ntmps167
 go_wp2_with fail
 refine(zG _ _ _ _ _ _ _ _ _ HX.out HY.out jb jb).mono ?_
 rintro e w3 ⟨rfl,hb3⟩
 have hb:=jx hb3
 clear hb3
 go_wp2
 go_ret2
 refine⟨none,0,0,ax,lx,cx,rfl,jb,jb,h1,h2,?_,?_,hb.out⟩
 .rw[gw HL.out];exact afH _
 .rw[eL HL.out];exact HX.out.below hb.out jp
def row_one(w:World)(T:TypeId)(x:Nat):Row (w.alloc (.cells #[.int .u32 (x:Int)] T)) w.heap.size T .u32 1 (λ_=>x):=by refine⟨_,heap_alloc_new w _,rfl,λj hj=>?_⟩;obtain rfl:j=0:=jb;rfl
def Vz(ax ay:Option Addr)(lx cx cy x y:Nat)(w:World)(hX:Limbs w ax lx x)(hY:Limbs w ay 1 y)(hle:y<=x)(h1:lx<=1073741824):
  Calls Tryz.prog 167 #[.slice ax lx cx,.slice ay 1 cy] w (Vy w x y):=by
 have hcm:decide (rU x y<0)=false:=by unfold rU;rw[ab jb];split<;>rfl
 have hy0:0<y:=by
  rcases eE y with e|e
  .have:=hY.vK.mp e;omega
  .exact e
 have hlx:0<lx:=by
  rcases eE lx with e|e
  .have:=hX.vK.mpr e;omega
  .exact e
 have HX:=jx hX
 have HY:=jx hY
 clear hX hY hle
 go_enter Tryz.func167,Tryz.ntmps167
 go_wp2_with fail
 refine(zG _ _ _ _ _ _ _ _ _ HX.out HY.out jb jb).mono ?_
 rintro e w3 ⟨rfl,hb3⟩
 have HX3:=HX.out.below hb3 jp
 have HY3:=HY.out.below hb3 jp
 obtain⟨fx,ex,kx,rx⟩:=HX3
 obtain⟨fy,ey,ky,ry⟩:=HY3
 rcases rx with h0|⟨b1,o1,rfl,rx⟩
 .omega
 rcases ry with h0|⟨b2,o2,rfl,ry⟩
 .omega
 have hcell:=ry 0 jb
 have hy1:fy 0=y:=by rw[<-ey];simp[lv]
 have hyl:y<LB:=by rw[<-hy1];exact ky.1 0 jb
 rw[hy1,cB]at hcell
 have RX:=jx rx
 have KX:=jx kx
 have EX:=jx ex
 have hb:=jx hb3
 clear rx ry kx ky ex ey hy1 hb3 HX HY
 go_wp2_with fail
 refine(JY _ _ _ _ _ _ _ h1 RX.out KX.out.1 hy0 hyl hlx).mono ?_
 rintro e w4 ⟨aq,lq,cq,rfl,g1,g2,g3,g4⟩
 rw[EX.out]at g3⊢
 have G3:=jx g3
 have G4:=jx g4
 clear g3 g4
 have hr:x%y<LB:=Nat.lt_trans (di _ hy0) hyl
 have hrow:=row_one w4 177 (x%y)
 generalize hR:x%y=R at*
 have HR:=jx hR
 have uS:=jx hrow
 clear hR hrow
 have hlv:lv (λ_=>R) 1=R:=by simp[lv]
 have HLV:=jx hlv
 clear hlv
 go_wp2_with fail
 refine(Dl w4 w4.heap.size 1 177 (λ_=>R) _ jb uS.out (λ_ _=>hr) ((Below.refl _ _).alloc jp _)).mono ?_
 rintro e w5 ⟨ar,lr,cr,rfl,k1,k2,k3,k4⟩
 rw[HLV.out]at k3
 have K3:=jx k3
 have K4:=jx k4
 clear k3 k4
 go_wp2
 go_ret2
 refine⟨aq,lq,cq,ar,lr,cr,rfl,g1,g2,k1,k2,G3.out.below K4.out jp,?_,?_⟩
 .rw[HR.out];exact K3.out
 .exact hb.out.trans ((G4.out.mono hb.out.size).trans (K4.out.mono (ap hb.out.size G4.out.size)))
def as8(w wr:World)(T:TypeId)(bu bq bd N q n:Nat)(G O d:Nat->Nat):Prop:=
 Row wr bu T .u32 N G/\Row wr bq T .u32 q O/\Row wr bd T .u32 n d/\Below w.heap.size w wr
def Yq(ax ay:Option Addr)(lx ly cx cy x y:Nat)(w:World)(hX:Limbs w ax lx x)(hY:Limbs w ay ly y)(hle:y<=x)(h1:lx<=1073741824)(hly:2<=ly):
  Calls Tryz.prog 167 #[.slice ax lx cx,.slice ay ly cy] w (Vy w x y):=by
 have hcm:decide (rU x y<0)=false:=by unfold rU;rw[ab jb];split<;>rfl
 have hll:ly<=lx:=by
  obtain⟨fx,ex,kx,rx⟩:=hX;obtain⟨fy,ey,ky,ry⟩:=hY;rcases fM lx ly with h|h
  .have:=kx.Uy ky h;omega
  .exact h
 have HX:=jx hX
 have HY:=jx hY
 clear hX hY hle
 go_enter Tryz.func167,Tryz.ntmps167
 go_wp2_with fail
 refine(zG _ _ _ _ _ _ _ _ _ HX.out HY.out jb jb).mono ?_
 rintro e w3 ⟨rfl,hb3⟩
 have HX3:=HX.out.below hb3 jp
 have HY3:=HY.out.below hb3 jp
 obtain⟨fx,ex,kx,rx⟩:=HX3
 obtain⟨fy,ey,ky,ry⟩:=HY3
 rcases rx with h0|⟨b1,o1,rfl,rx⟩
 .omega
 rcases ry with h0|⟨b2,o2,rfl,ry⟩
 .omega
 have hcell:=ry (ly-1) jb
 have htop:fy (ly-1)≠0:=by rcases ky.2 with h|h;omega;exact h
 have htl:=ky.1 (ly-1) jb
 obtain⟨s1,s2,s3⟩:=anQ jb htl
 have awZ:=λw=>anR (fy (ly-1)) w jb htl
 generalize hS:lz (fy (ly-1))=s at*
 have RX:=jx rx
 have RY:=jx ry
 have KX:=jx kx
 have KY:=jx ky
 have EX:=jx ex
 have EY:=jx ey
 have HB:=jx hb3
 have HLZ:=jx awZ
 have S2:=jx s2
 have S3:=jx s3
 have hl1:((ly:Int)==1)=false:=by simp;omega
 clear rx ry kx ky ex ey hb3 HX HY awZ hS s2 s3
 go_wp2_with fail
 refine(HLZ.out _).mono ?_
 rintro e w4 ⟨rfl,rfl⟩
 go_wp2_with fail
 refine(O7 b2 o2 ly cy s ly fy _ jb RY.out KY.out.1 s1 jb jp (.inr S3.out)).mono ?_
 rintro e w5 ⟨D,rfl,rD,eD,lD,hb5⟩
 have RX5:=jx (RX.out.below hb5 (RX.out.lt jb))
 have RD:=jx rD
 have ED:=jx eD
 have LD:=jx lD
 have HB5:=jx (HB.out.trans (hb5.mono HB.out.size))
 have z5:w3.heap.size<w5.heap.size:=rD.lt
 clear rD eD lD hb5
 obtain⟨N,hN1,hN2⟩:∃N,N<=lx+1/\lx+1<=N:=⟨lx+1,jb,jb⟩
 obtain rfl:N=lx+1:=jb
 go_wp2_with fail
 refine(O7 b1 o1 lx cx s (lx+1) fx _ jb RX5.out KX.out.1 s1 jb jb (.inl jb)).mono ?_
 rintro e w6 ⟨G,rfl,rG,eG,lG,hb6⟩
 have RD6:=jx (RD.out.below hb6 z5)
 have RG:=jx rG
 have EG:=jx eG
 have LG:=jx lG
 have HB6:=jx (HB5.out.trans (hb6.mono HB5.out.size))
 have z6:w5.heap.size<w6.heap.size:=rG.lt
 clear rG eG lG hb6
 obtain⟨q,hq1,hq2⟩:∃q,q+ly<=lx+1/\lx+1<=q+ly:=⟨lx+1-ly,jb,jb⟩
 go_wp2_with (refine iE _ _ 175 177 .u32 4 q _ rfl rfl Tryz.underlying175 xu rfl rfl jb jb jb ?_;intro w7 hr7 hb7 hz7)
 have hqe:q+ly=lx+1:=jb
 have hw3:=HB.out.size
 have RG7:=jx (RG.out.below hb7 z6)
 have RD7:=jx (RD6.out.below hb7 jb)
 have HB7:=jx (HB6.out.trans (hb7.mono HB6.out.size))
 have hU:lv G (lx+1)=x*2^s:=by rw[EG.out,EX.out]
 have hV:lv D ly=y*2^s:=by rw[ED.out,EY.out]
 have aqm:0<y*2^s:=by rw[<-EY.out];have:=KY.out.ge jb;exact cg (aM (dq lT) this) (dq jb)
 have aw0:y*2^s<LB^ly:=by rw[<-hV];exact KL LD.out
 have hless:x*2^s<LB^q*(y*2^s):=by have:=afD (s:=s) KX.out KY.out jb hqe;rw[EX.out,EY.out]at this;exact this
 have aqn:=ajb jb ED.out LD.out S2.out
 have HU:=jx hU
 have HV:=jx hV
 have HVP:=jx aqm
 have HVL:=jx aw0
 have HLS:=jx hless
 have HNM:=jx aqn
 have HQE:=jx hqe
 clear hU hV aqm aw0 hless aqn hqe RX RX5 RY RD RD6 RG HB HB5 HB6 hb7 HLZ S2 S3 htop htl hcell EG ED hz7
 generalize w3.heap.size=bd at*
 generalize w5.heap.size=bu at*
 generalize w6.heap.size=bq at*
 go_loopw [13] (λi wr=>∃I:Int,i=.int .i64 I/\-1<=I/\I<q/\(∃G' O,as8 w wr 177 bu bq bd (lx+1) q ly G' O D/\BO (lx+1) ly q (I+1).toNat (y*2^s) (x*2^s) G' O)) (λi _=>(intOf i+1).toNat)
 case atStart=>
  refine⟨_,rfl,jb,jb,G,_,⟨RG7.out,hr7,RD7.out,HB7.out⟩,?_⟩;rw[show((q:Int)-1+1).toNat=q by omega];exact abl HU.out HQE.out HLS.out LG.out
 case round=>
  obtain⟨I,rfl,hI1,hI2,G',O,hmem,hld⟩:=hrel;clear hr7 RG7 RD7 HB7;have HM:=jx hmem;have HL:=jx hld;clear hmem hld;by_cases h0:I=-1
  .as_aux_lemma=>
   subst h0;obtain⟨r1,r2,r3⟩:=aja HL.out rfl;have R1:=jx r1;have R2:=jx r2;have R3:=jx r3;clear r1 r2 r3;have q1:(0:Int)<=ly:=jb;have q2:(ly:Int)<=(lx:Int)+1:=jb;go_wp2_with fail;go_region_held3 (λ_=>True) (trivial) (first|(go_at_call 166;refine(Sr bq 0 q q O (Gu O q) _ jb jp HM.out.2.1.drew.reads (y8 O q) (Jz O q) (NK O q)).mono ?_;rintro e w' ⟨rfl,rfl⟩)|(go_at_call 209;refine(Vu bu 0 ly (lx+1) s (x%y) G' _ jb jb (λj hj=>HM.out.1.drew.reads j jb) (λj hj=>HL.out.lG j jb) s1 R2.out).mono ?_;rintro e w9 ⟨ar,lr,cr,rfl,k1,k2,k3,k4⟩));all_goals go_wp2
   all_goals go_ret2
   all_goals(refine⟨_,_,_,ar,lr,cr,rfl,y8 O q,jb,k1,k2,?_,k3,?_⟩)
   .have hl:Limbs wr.drew (some ⟨bq,0,none⟩) (Gu O q) (x/y):=
     ⟨O,by rw[acu];exact R1.out,Xh R3.out,.inr ⟨bq,0,rfl,λj hj=>HM.out.2.1.drew.reads j (aM hj (y8 O q))⟩⟩
    exact hl.below k4 jp
   .exact HM.out.2.2.2.drew.trans (k4.mono HM.out.2.2.2.drew.size)
  .as_aux_lemma=>
   obtain⟨m,rfl⟩:=cn (show 0<=I by omega);have hm:m<q:=jb;have HL2:Hid (BO (lx+1) ly q (m+1) (y*2^s) (x*2^s) G' O):=HL.out;clear HL;have hold:=HM.out.2.1.cell (j:=m) hm;have hfr:=HM.out.2.1.frozen m;have hpre:MN ly m (lx+1) G' D:=⟨hly,jb,jb,HL2.out.lG,LD.out,HNM.out,by rw[HV.out];exact KW HL2.out jb⟩
   have azo:=jx hpre;clear hpre;go_wp2_with fail;rw[show m+ly+1-m=ly+1 by omega];refine(afF bu m (lx+1) ly _ bd 0 ly G' D _ azo.out HM.out.1 (HM.out.2.2.1.reads) jb).mono ?_;rintro e w8 ⟨G2,rfl,rG2,lG2,oG2,wG2,Vx⟩;clear hold hfr;have hrq:=HM.out.2.1.touch Vx (by omega:bq≠bu);have hrd:=HM.out.2.2.1.touch Vx (by omega:bd≠bu);have hbw:=Touch.below HM.out.2.2.2 Vx jb;have hold:=hrq.cell (j:=m) hm;have hfr:=hrq.frozen m;have hst:=afC HL2.out hm HVP.out HVL.out jb (by rw[wG2,HV.out]) oG2 lG2;rw[HV.out];have HST:=jx hst;have RQ:=jx hrq;have RD8:=jx hrd;have HB8:=jx hbw;have RG8:=jx rG2;clear hst hrq hrd hbw rG2 lG2 oG2 wG2 Vx;go_wp2_with fail;go_roundw
   case rel=>
    refine⟨(m:Int)-1,rfl,jb,jb,G2,_,⟨RG8.out.setOther _ _ (by simp;omega),RQ.out.set m _,RD8.out.setOther _ _ (by simp;omega),HB8.out.setCell (by simp;omega) _⟩,?_⟩;rw[show((m:Int)-1+1).toNat=m by omega];exact HST.out
   case measure=>simp[intOf]
def O8(ax ay:Option Addr)(lx ly cx cy x y:Nat)(w:World)(hX:Limbs w ax lx x)(hY:Limbs w ay ly y)(hy:0<y)(h1:lx<=1073741824)(h2:lx<=cx)(h3:cx<=9223372036854775807)(h4:ly<=1073741824):
  Calls Tryz.prog 167 #[.slice ax lx cx,.slice ay ly cy] w (Vy w x y):=by
 have hly:0<ly:=by
  rcases eE ly with e|e
  .have:=hY.vK.mpr e;omega
  .exact e
 by_cases hlt:x<y
 .exact Yp ax ay lx ly cx cy x y w hX hY hlt h1 h2 h3 jb
 .by_cases h5:ly=1
  .subst h5;exact Vz ax ay lx cx cy x y w hX hY jb h1
  .exact Yq ax ay lx ly cx cy x y w hX hY jb h1 jb
def divV(x y:Nat):Value:=.tuple #[.string (bn (x/y)),.string (bn (x%y)),.bool true]
def Yr(a b:ByteArray)(w:World)(ha:a.size<=1073741824)(hb:b.size<=1073741824)(hy:0<nv b):
  Calls Tryz.prog 120 #[.string a,.string b] w λe w'=>e=.returned (divV (nv a) (nv b))/\Below w.heap.size w w':=by
 have HYP:=jx hy
 clear hy
 go_enter Tryz.func120,Tryz.ntmps120
 go_wp2_with fail
 refine(parse_any b _ hb).mono ?_;rintro e w1 ⟨ay,ly,cy,rfl,lcy,ccy,hY,hb1⟩
 have hlm:=hY.vw
 have hl0:((ly:Int)==0)=false:=by
  rcases eE ly with e|e
  .have:=hY.vK.mpr e;have:=HYP.out;omega
  .simp;omega
 have HY:=jx hY
 clear hY
 go_wp2_with fail
 refine(parse_any a _ ha).mono ?_;rintro e w2 ⟨ax,lx,cx,rfl,lcx,ccx,hX,hb2⟩
 have hll:=hX.vw
 have HX:=jx hX
 have HY2:=jx (HY.out.below hb2 jp)
 have HB:=jx (hb1.trans (hb2.mono hb1.size))
 clear hX HY hb1 hb2
 go_wp2_with fail
 refine(O8 _ _ _ _ _ _ _ _ _ HX.out HY2.out HYP.out jb lcx ccx jb).mono ?_
 rintro e w3 ⟨aq,lq,cq,ar,lr,cr,rfl,g1,g2,g3,g4,g5,g6,g7⟩
 have k1:lq<=(a.size+3)/4:=g5.NW (cV (fm _ _) (OY a))
 have k2:lr<=(a.size+3)/4:=g6.NW (cV (Nat.mod_le _ _) (OY a))
 have G5:=jx g5
 have G6:=jx g6
 have HB3:=jx (HB.out.trans (g7.mono HB.out.size))
 clear g5 g6 g7 HX HY2 HB
 go_wp2_with fail
 refine(Il _ _ _ _ _ G5.out jb g1).mono ?_
 rintro e w4 ⟨rfl,hb4⟩
 have G64:=jx (G6.out.below hb4 jp)
 have HB4:=jx (HB3.out.trans (hb4.mono HB3.out.size))
 clear hb4 G5 G6 HB3
 go_wp2_with fail
 refine(Il _ _ _ _ _ G64.out jb g3).mono ?_
 rintro e w5 ⟨rfl,hb5⟩
 go_wp2
 go_ret3
 exact⟨rfl,HB4.out.trans (hb5.mono HB4.out.size)⟩
def Limbs.lt{w:World}{a:Option Addr}{len x:Nat}(h:Limbs w a len x):x<LB^len:=by obtain⟨f,rfl,h2,_⟩:=h;exact h2.lt
def abn(w wr:World)(G:Nat)(k:Nat)(vx vy:Value):Prop:=
 ∃ax lx cx ay ly cy X,vx=.slice ax lx cx/\vy=.slice ay ly cy/\lx<=cx/\cx<=9223372036854775807/\lx<=1073741824/\ly<=cy/\cy<=9223372036854775807/\ly<=1073741824/\Limbs wr ax lx X/\Limbs wr ay ly k/\Nat.gcd X k=G/\Below w.heap.size w wr
def anX(a b:ByteArray)(w:World)(ha:a.size<=1073741824)(hb:b.size<=1073741824):
  Calls Tryz.prog 119 #[.string a,.string b] w λe w'=>e=.returned (.string (bn (Nat.gcd (nv a) (nv b))))/\Below w.heap.size w w':=by
 go_enter Tryz.func119,Tryz.ntmps119
 go_wp2_with fail
 refine(parse_any a _ ha).mono ?_;rintro e w1 ⟨ax,lx,cx,rfl,lcx,ccx,hX1,hb1⟩
 go_wp2_with fail
 refine(parse_any b _ hb).mono ?_;rintro e w2 ⟨ay,ly,cy,rfl,lcy,ccy,hY,hb2⟩
 have hX:=hX1.below hb2 jp
 have hll:=hX.vw
 have hlm:=hY.vw
 have hstart:abn w w2 (Nat.gcd (nv a) (nv b)) (nv b) (.slice ax lx cx) (.slice ay ly cy):=
  ⟨ax,lx,cx,ay,ly,cy,nv a,rfl,rfl,lcx,ccx,jb,lcy,ccy,jb,hX,hY,rfl,hb1.trans (hb2.mono hb1.size)⟩
 have HS:=jx hstart
 clear hX hY hX1 hb1 hb2 hstart
 go_wp2_with fail
 go_loopg [5,6] (nv b) (λk vx vy wr=>abn w wr (Nat.gcd (nv a) (nv b)) k vx vy)
 case atStart=>exact HS.out
 case round=>
  obtain⟨ax,lx,cx,ay,ly,cy,X,rfl,rfl,h1,h2,h3,h4,h5,h6,hX,hY,hg,hbel⟩:=hrel;clear HS;have HX:=jx hX;have HY:=jx hY;have HG:=jx hg;have HB:=jx hbel;by_cases h0:ly=0
  .as_aux_lemma=>
   subst h0;have hk:=hY.vK.mpr rfl;have HK:=jx hk;clear hk hX hY hg hbel;go_wp2_with fail;refine(Il _ _ _ _ _ HX.out h3 h1).mono ?_;rintro e w4 ⟨rfl,hb4⟩;go_wp2;go_ret;refine⟨EI ?_,HB.out.trans (hb4.mono HB.out.size)⟩;have:=HG.out;rw[HK.out,Nat.gcd_zero_right]at this;rw[this]
  .as_aux_lemma=>
   have hk:0<gk:=by
    rcases eE gk with e|e
    .have:=hY.vK.mp e;omega
    .exact e
   have hl0:decide ((0:Int)<(ly:Int))=true:=by simp;omega
   clear hX hY hg hbel;go_wp2_with fail;refine(O8 _ _ _ _ _ _ _ _ _ HX.out HY.out hk h3 h1 h2 h6).mono ?_;rintro e w3 ⟨aq,lq,cq,ar,lr,cr,rfl,g1,g2,g3,g4,g5,g6,g7⟩;have hlr:lr<=ly:=g6.NW (Nat.lt_trans (di _ hk) HY.out.lt);have hnew:abn w w3 (Nat.gcd (nv a) (nv b)) (X%gk) (.slice ay ly cy) (.slice ar lr cr):=
    ⟨ay,ly,cy,ar,lr,cr,gk,rfl,rfl,h4,h5,h6,g3,g4,jb,HY.out.below g7 jp,g6,by rw[<-HG.out,Nat.gcd_comm X gk,Nat.gcd_rec gk X,Nat.gcd_comm],HB.out.trans (g7.mono HB.out.size)⟩
   have HN:=jx hnew;have HML:=jx (di X hk);clear hnew g5 g6 g7;go_wp2_with fail;go_roundg (X%gk)
   case measure=>exact HML.out
   case rel=>exact HN.out
def anY(w:World)(T:TypeId)(x y:Nat):Row (w.alloc (.cells #[.int .u32 (x:Int),.int .u32 (y:Int)] T)) w.heap.size T .u32 2 (λj=>if j=0 then x else y):=by refine⟨_,heap_alloc_new w _,rfl,λj hj=>?_⟩;rcases(show j=0\/j=1 by omega)with rfl|rfl<;>rfl
def VA(u:Nat)(w:World)(hu:u<18446744073709551616):
  Calls Tryz.prog 121 #[.int .u64 (u:Int)] w λe w'=>e=.returned (.string (bn u))/\Below w.heap.size w w':=by
 have e1:((u:Int)%4294967296)=((u%4294967296:Nat):Int):=jb
 have e2:((u:Int)/4294967296)=((u/4294967296:Nat):Int):=jb
 obtain⟨x,hx⟩:∃x,x=u%4294967296:=⟨_,rfl⟩
 obtain⟨y,hy⟩:∃y,y=u/4294967296:=⟨_,rfl⟩
 have hyl:y<4294967296:=jb
 have hu2:(u:Int)<=18446744073709551615:=jb
 have hlv:lv (λj=>if j=0 then x else y) 2=u:=by simp[lv];unfold LB;omega
 have hlim:∀j,j<2->(if j=0 then x else y)<LB:=by intro j _;unfold LB;split<;>omega
 have aA3:(y:Int)%4294967296=y:=jb
 rw[<-hx]at e1
 rw[<-hy]at e2
 have HLV:=jx hlv
 have HLM:=jx hlim
 clear hx hy hlv hlim
 go_enter Tryz.func121,Tryz.ntmps121
 go_wp2_with fail
 have hrow:=anY w 177 x y
 refine(Aw w.heap.size 0 2 2 _ _ jb jb hrow.reads HLM.out).mono ?_
 rintro e w4 ⟨rfl,hb4⟩
 rw[HLV.out]
 clear hrow
 go_wp2
 go_ret
 exact⟨rfl,((Below.refl _ _).alloc jp _).trans (hb4.mono kc)⟩
end Go.Proofs.Ins
set_option maxRecDepth 100000
namespace Go.Proofs.Xe
open Go.RowKit Go.Proofs.Ins
theorem azp{f:Nat}{R:Nat->V}(hT:jO f=kN1 R)(hk:OJ Tryz.prog f=true)(H:∀s w,s.size<=1073741824->Ct Tryz.prog f (R (nv s)) #[.string s] w):Au f:=⟨zY hk,λargs v h φ bP w ha=>by
 rw[hT]at h;unfold kN1 at h;split at h
 .split at h
  .next hs=>
   cases h;obtain⟨l⟩:=bP;match l,ha with
   |[x],ha=>
    have hx:x=_:=ha.1
    rw[hx]
    exact H _ w hs
  .cases h
 .cases h⟩
theorem afI{f:Nat}{R:Nat->Nat->Option V}(hT:jO f=Z8 R)(hk:OJ Tryz.prog f=true)(H:∀s t v w,s.size<=1073741824->t.size<=1073741824->R (nv s) (nv t)=some v->Ct Tryz.prog f v #[.string s,.string t] w):Au f:=⟨zY hk,λargs v h φ bP w ha=>by
 rw[hT]at h;unfold Z8 at h;split at h
 .split at h
  .next hs=>
   obtain⟨l⟩:=bP;match l,ha with
   |[x,y],ha=>
    have hx:x=_:=ha.1
    have hy:y=_:=ha.2.1
    rw[hx,hy]
    exact H _ _ _ w hs.1 hs.2 h
  .cases h
 .cases h⟩
theorem okI{f:Nat}{k:IntKind}{l r:Int}{R:Int->V}(hT:jO f=kI k l r R)(hk:OJ Tryz.prog f=true)(H:∀i φ bP w,l<=i->i<=r->Ir φ [.c (.int k i)] bP.toList->Ct Tryz.prog f (R i) bP w):Au f:=⟨zY hk,λargs v h φ bP w ha=>by
 rw[hT]at h;unfold kI at h;split at h
 .split at h
  .next hs=>
   cases h;obtain⟨rfl,h1,h2⟩:=hs;exact H _ φ bP w h1 h2 ha
  .cases h
 .cases h⟩
instance:Au 114:=azp wU (by kernel_rfl) λs w hs=>(ql s w jb).mono λ_ _ he=>⟨_,he.1,he.2▸Below.refl _ _,λ_=>rfl⟩
instance:Au 61:=afI zy (by kernel_rfl) λs t v w hs ht h=>by cases h;exact(UL s t w hs ht).mono λ_ _ he=>⟨_,he.1,he.2▸Below.refl _ _,λ_=>rfl⟩
instance:Au 111:=afI zZ (by kernel_rfl) λs t v w hs ht h=>by cases h;exact(add_any s t w hs ht).mono λ_ _ he=>⟨_,he.1,he.2,λ_=>rfl⟩
instance:Au 62:=afI qH (by kernel_rfl) λs t v w hs ht h=>by cases h;exact(Vq s t w hs ht).mono λ_ _ he=>⟨_,he.1,he.2,λ_=>rfl⟩
instance:Au 119:=afI Aa (by kernel_rfl) λs t v w hs ht h=>by cases h;exact(anX s t w hs ht).mono λ_ _ he=>⟨_,he.1,he.2,λ_=>rfl⟩
instance:Au 112:=afI qI (by kernel_rfl) λs t v w hs ht h=>by
 cases h;refine(Rj s t w hs ht).mono λ_ _ he=>⟨_,he.1,he.2,λφ=>?_⟩
 by_cases hab:nv t<=nv s
 .rw[ae hab,Yk hab];exact⟨_,[.bool true],rfl,rfl,.bool true,[],rfl,rfl,rfl⟩
 .rw[ab hab,ac8 jb];exact⟨_,[.bool false],rfl,rfl,.bool false,[],rfl,rfl,rfl⟩
instance:Au 120:=afI uG (by kernel_rfl) λs t v w hs ht h=>by
 split at h
 .next h0=>
  cases h;exact(Yr s t w hs ht h0).mono λ_ _ he=>⟨_,he.1,he.2,λφ=>⟨_,[.string (bn (nv s%nv t)),.bool true],rfl,rfl,_,[.bool true],rfl,rfl,.bool true,[],rfl,rfl,rfl⟩⟩
 .cases h
instance:Au 121:=okI qJ (by kernel_rfl) λi φ bP w h1 h2 ha=>by
 obtain⟨l⟩:=bP;match l,ha with
 |[x],ha=>
  have hx:x=.int .u64 i:=ha.1
  have:=VA i.toNat w jb
  rw[eQ h1]at this
  rw[hx]
  exact this.mono λ_ _ he=>⟨_,he.1,he.2,λ_=>rfl⟩
def aqo:OC Tryz.prog EK:=⟨λf F h=>ahF h,λf args σ v σ' ho=>by cases ho⟩
def as9{q:Rat}{v:V}(h:isQ q v=true):v=rV q:=by
 unfold isQ at h;split at h
 .simp only[af,beq_iff_eq,fi]at h;rw[h.1,h.2.1,h.2.2];rfl
 .cases h
def Yt{f:Nat}{args:List V}{q:Rat}(h:ac4 f args q=true):aC EK f args ⟨.leaf,0⟩ λr _=>r=rV q:=by
 unfold ac4 at h;split at h
 .next v σ e=>exact⟨_,_,_,e,as9 h⟩
 .cases h
instance:Au 66:=okI II (by kernel_rfl) λi φ bP w h1 h2 ha=>by obtain⟨n,rfl⟩:=cn h1;exact Gz aqo rfl rfl (Yt (JU awQ n jb)) φ bP w ha
instance:Au 23:=⟨zY (by kernel_rfl),λargs v h φ bP w ha=>by
 replace h:kQ (λi j=>rV ((i:Rat)/(j:Rat))) args=some v:=h;unfold kQ at h;split at h
 .split at h
  .next hs=>
   cases h;obtain⟨⟨rfl,h1,h2⟩,rfl,h3,h4⟩:=hs;obtain⟨i,rfl⟩:=cn h1;rename_i m;obtain⟨n,rfl⟩:=cn (a:=m) jb;obtain⟨j,rfl⟩:∃j,n=j+1:=⟨n-1,jb⟩
   exact Gz aqo rfl rfl (Yt (JU (awR j jb) i jb)) φ bP w ha
  .cases h
 .cases h⟩
end Go.Proofs.Xe
