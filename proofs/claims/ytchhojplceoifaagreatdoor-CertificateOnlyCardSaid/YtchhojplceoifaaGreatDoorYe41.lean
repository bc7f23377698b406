import Derived.Test.YtchhojplceoifaaGreatDoorYe40
set_option linter.all false
set_option maxRecDepth 100000
set_option maxHeartbeats 8000000
namespace Go.Proofs.Xe
open Go.RowKit Go.Proofs.Ins
def afC(q:Rat):decide (rs q=⟨#[]⟩)=decide (q=0):=by
 by_cases h:q=0
 .rw[bh h];exact bh (jL.mpr h)
 .rw[az h];exact az λe=>h (jL.mp e)
def aoh{σ:St}(hW:WF σ){p:Nat->Prop}{v:B}{n m:Nat}{A:Nat->Nat->Rat}(hA:dY p σ.h v n (λ_=>m) A)(hn:n<=1000){f c:Nat}(hf:f<=n)(hc:c<m):
  aC EN 239 [.c v,.c (.int .i64 (.ofNat f)),.c (.int .i64 (.ofNat c))] σ λr σ'=>r=.c (.int .i64 (if f+vg A c f (n-f)<n then .ofNat (f+vg A c f (n-f))else .negSucc 0))/\Fr σ σ':=by
 refine aO (xW.o _ _) xW.h ?_
 unfold xW
 dsimp only
 have hlen:=hA.len
 have hz:=λ(args:List V) (σ:St) (K:V->St->Prop)=>iL (E:=EN) (K:=K) (gV.o args σ) gV.h
 unfold gV at hz
 dsimp only at hz
 simp(disch:=try exact jz) only[go_sem,z3,hlen]
 refine aF (λq tm σ'=>∃i,q=n-i/\f<=i/\i<=n/\Tr.ah tm 0=.c v/\Tr.ah tm 2=.c (.int .i64 (.ofNat c))/\Tr.ah tm 7=.c (.int .i64 (.ofNat i))/\f+vg A c f (n-f)=i+vg A c i (n-i)/\Fr σ σ') (n-f) ?_ ?_
 .refine⟨f,rfl,jp,hf,?_⟩
  simp(disch:=try exact jz) only[go_sem,z3,am]
  exact Fr.refl hW
 .rintro q tm σ' ⟨i,rfl,hi1,hi,t0,t2,t7,hfs,hf'⟩
  have hFr:=Fr.refl hf'.wf
  simp(disch:=try exact jz) only[go_sem,z3,t0,t2,t7,hlen,aG]
  refine aH (λhlt=>?_) (λhlt=>?_)
  .obtain⟨b6,o6,c6,T,rfl,-,bH,hT⟩:=hA.at hlt
   obtain⟨b7,o7,c7,rfl,-,dw⟩:=aY.at3 hT hc
   have bH:=hf'.ld hW bH
   have dw:=hf'.ld hW dw
   have hs:n-i=(n-(i+1))+1:=jb
   have hst:vg A c i (n-i)=if A i c=0 then vg A c (i+1) (n-(i+1))+1 else 0:=by grind[vg]
   by_cases h0:A i c=0
   .simp(disch:=try exact jz) only[go_sem,z3,t0,t2,t7,bH,dw,hz,afC,h0,gP]
    rw[ab h0]at hst
    exact⟨n-(i+1),jb,i+1,rfl,jb,jb,rfl,jb,fr⟩
   .simp(disch:=try exact jz) only[go_sem,z3,t0,t2,t7,bH,dw,hz,afC,h0,decide_false]
    rw[ae h0]at hst
    rw[ab jb]
    exact⟨by grind,fr⟩
  .have:i=n:=jb
   subst this
   have:vg A c i (i-i)=0:=by rw[Nat.sub_self];rfl
   simp(disch:=try exact jz) only[go_sem,z3,t0]
   grind
def minS(a b:Nat->Rat)(f:Rat)(j k:Nat):Rat:=if k<j then a k-f*b k else a k
def aoi{σ:St}(hW:WF σ){p:Nat->Prop}{ba m:Nat}{ca:Cap}{o:Option (Nat×Nat)}{a b:Nat->Rat}{bv:B}{f:Rat}(h1:σ.h ba=some ⟨cO m a,o⟩)(hpl:plo o=true)(hrd:Y4 o=true)(hb:jc p σ.h bv m b)(hp:∀x,p x->x≠ba)(hm:m<=1000)
  (z0:Sz f) (za:∀k,k<m->Sz (a k)) (zb:∀k,k<m->Sz (b k)) (zm:∀k,k<m->Sz (f*b k)) (zs:∀k,k<m->Sz (a k-f*b k)):
  aC EN 241 [.c (.sl ba 0 m ca),.c bv,.agg [.bool (rn f),.str (rs f),.str (rd f)]] σ λ_ σ'=>σ'.h ba=some ⟨cO m λk=>a k-f*b k,o⟩/\aU [ba] σ σ':=by
 refine aO (xX.o _ _) xX.h ?_
 unfold xX
 dsimp only
 have hba:=hW.lt h1
 have hFr:=aU.refl (ex:=[ba]) hW
 have hz:=λ(args:List V) (σ:St) (K:V->St->Prop)=>iL (E:=EN) (K:=K) (gV.o args σ) gV.h
 unfold gV at hz
 dsimp only at hz
 simp(disch:=try exact jz) only[go_sem,z3,am]
 refine aF (λq tm σ'=>∃j,q=m-j/\j<=m/\Tr.ah tm 0=.c (.sl ba 0 m ca)/\Tr.ah tm 1=.c bv/\Tr.ah tm 5=.c (.ptr σ.aj 0)/\Tr.ah tm 8=.c (.int .i64 (.ofNat m))/\Tr.ah tm 9=.c (.int .i64 (.ofNat j))
  /\σ'.h σ.aj=some ⟨[.bool (rn f),.str (rs f),.str (rd f)],none⟩/\σ'.h ba=some ⟨cO m (minS a b f j),o⟩/\aU [ba] σ σ'/\σ.aj+1<=σ'.aj) m ?_ ?_
 .refine⟨0,jb,jb,?_⟩
  simp(disch:=try exact jz) only[go_sem,z3,am,h1]
  exact⟨bO (λl=>some (Bk.mk l o)) (dJ λk _=>(ae jb).symm),by repeat(first|assumption|exact aU.refl (by assumption)|exact aU.up (by assumption) kf|exact aU.up (aU.refl (by assumption)) kf|refine aU.set1 ?_ kg kf|refine aU.kF ?_ kg|refine aU.nR ?_ kg|refine aU.oH ?_ kf),jb⟩
 .rintro q tm σ' ⟨j,rfl,hj,t0,t1,t5,t8,t9,q5,q1,hf,hnx⟩
  have hle:=hf.le
  have jm:=aU.refl (ex:=[ba]) hf.wf
  simp(disch:=try exact jz) only[go_sem,z3,t0,t1,t5,t8,t9,aG]
  refine aH (λhlt=>?_) (λhlt=>?_)
  .obtain⟨b7,o7,c7,rfl,hp7,dw⟩:=aY.at3 hb hlt
   have hne:=hp _ hp7
   have dw:=hf.ld hW kd dw
   have y1:=za j hlt
   have y2:=zb j hlt
   have y3:=zm j hlt
   have y4:=zs j hlt
   have e1:minS a b f j j=a j:=ae jb
   have hb7:=hf.wf.dF dw
   have hb1:=hf.wf.lt q1
   by_cases h0:b j=0
   .simp(disch:=try exact jz) only[go_sem,z3,t0,t1,t5,t8,t9,dw,hz,afC,h0,gP]
    refine⟨m-(j+1),jb,j+1,rfl,jb,rfl,q5,?_,by repeat(first|assumption|exact aU.refl (by assumption)|exact aU.up (by assumption) kf|exact aU.up (aU.refl (by assumption)) kf|refine aU.set1 ?_ kg kf|refine aU.kF ?_ kg|refine aU.nR ?_ kg|refine aU.oH ?_ kf),jb⟩
    grind[Go.Proofs.Xe.dJ,Go.Proofs.Xe.minS]
   .simp(disch:=try exact jz) only[go_sem,z3,t0,t1,t5,t8,t9,dw,hz,afC,h0,decide_false,ak q5,ak q1,q1,hrd,hpl,aI q1,e1]
    refine⟨m-(j+1),jb,j+1,rfl,jb,rfl,q5,bO (λl=>some (Bk.mk l o)) (dJ λk _=>?_),by repeat(first|assumption|exact aU.refl (by assumption)|exact aU.up (by assumption) kf|exact aU.up (aU.refl (by assumption)) kf|refine aU.set1 ?_ kg kf|refine aU.kF ?_ kg|refine aU.nR ?_ kg|refine aU.oH ?_ kf),jb⟩
    grind[aN,minS]
  .have:j=m:=jb
   subst this
   simp(disch:=try exact jz) only[go_sem,z3,am]
   refine⟨?_,hf⟩
   rw[q1]
   exact bO (λl=>some (Bk.mk l o)) (dJ λk hk=>ab hk)
def SX{n:Nat}(h:0<n):decide (n=0)=false:=az jb
def PL{n:Nat}(h:n<=16):decide (16<n)=false:=az jb
def YT{σ:St}(hW:WF σ){p:Nat->Prop}{v:B}{n m:Nat}{A:Nat->Nat->Rat}(hA:dY p σ.h v n (λ_=>m) A)(hn:0<n)(hn2:n<=16)(hm:0<m)(hm2:m<=16):
  aC EN 216 [.c v] σ λr σ'=>r=.c (.int .i64 (.ofNat 0))/\Fr σ σ':=by
 refine aO (xU.o _ _) xU.h ?_
 unfold xU
 dsimp only
 have hFr:=Fr.refl hW
 have hlen:=hA.len
 obtain⟨b6,o6,c6,T,rfl,-,bH,hT⟩:=hA.at hn
 have vS:ld σ.h b6 (o6+0*1) 1 false=some (.c T):=bH
 have hlT:=aY.len hT
 simp(disch:=try exact jz) only[go_sem,z3,hlen,bH,vS,hlT,SX hn,SX hm]
 refine aF (λq tm σ'=>∃i,q=n-i/\i<=n/\Tr.ah tm 0=.c (.sl b6 o6 n c6)/\Tr.ah tm 15=.c (.sl b6 o6 n c6)/\Tr.ah tm 16=.c (.int .i64 (.ofNat n))/\Tr.ah tm 17=.c (.int .i64 (.ofNat i))/\Fr σ σ') n ?_ ?_
 .refine⟨0,jb,jb,?_⟩
  simp(disch:=try exact jz) only[go_sem,z3,am]
  exact hFr
 .rintro q tm σ' ⟨i,rfl,hi,t0,t15,t16,t17,hf⟩
  have vS:=hf.ld hW vS
  simp(disch:=try exact jz) only[go_sem,z3,t0,t15,t16,t17,aG]
  refine aH (λhlt=>?_) (λhlt=>?_)
  .obtain⟨b7,o7,c7,T2,e7,-,dw,hT2⟩:=hA.at hlt
   cases e7
   have dw:=hf.ld hW dw
   have ayG:=aY.len hT2
   simp(disch:=try exact jz) only[go_sem,z3,t0,t15,t16,t17,vS,dw,hlT,ayG,Ry]
   exact⟨n-(i+1),jb,i+1,rfl,jb,rfl,hf⟩
  .have:i=n:=jb
   subst this
   simp(disch:=try exact jz) only[go_sem,z3,t0,hlen,vS,hlT,PL hn2,PL hm2,aG]
   exact hf
def PW(n:Nat)(s:Nat->Bool)(u:Nat->Nat):List B:=bV n λi=>[.bool (s i),.str (bn (u i))]
def z2:[B.bool false,s0]=[.bool false,.str (bn 0)]:=rfl
def aoj(n:Nat):rep [.bool false,.str (bn 0)] n=PW n (λ_=>false) λ_=>0:=Lh _ n
def atl(n:Nat)(s:Nat->Bool)(u:Nat->Nat)(i:Nat)(h:i<n):zQ (PW n s u) (i*2) 2 true=some (.agg [.bool (s i),.str (bn (u i))]):=by unfold PW;have:=y8 (e:=2) (k:=0) (m:=2) (G:=λi=>[B.bool (s i),.str (bn (u i))]) true (λ_=>rfl) h jj jj;rw[cF]at this;rw[this];rfl
def aok(n:Nat)(s:Nat->Bool)(u:Nat->Nat)(i:Nat)(h:i<n):zQ (PW n s u) (i*2) 1 false=some (.c (.bool (s i))):=by unfold PW;have:=y8 (e:=2) (k:=0) (m:=1) (G:=λi=>[B.bool (s i),.str (bn (u i))]) false (λ_=>rfl) h jj jj;rw[cF]at this;rw[this];rfl
def aol(n:Nat)(s:Nat->Bool)(u:Nat->Nat)(i:Nat)(h:i<n):zQ (PW n s u) (i*2+1) 1 false=some (.c (.str (bn (u i)))):=by unfold PW;have:=y8 (e:=2) (k:=1) (m:=1) (G:=λi=>[B.bool (s i),.str (bn (u i))]) false (λ_=>rfl) h jj jj;rw[this];rfl
def atm(n:Nat)(s:Nat->Bool)(u:Nat->Nat)(i:Nat)(t:Bool)(v:Nat)(h:i<n):yH (PW n s u) (i*2) [.bool t,.str (bn v)]=some (PW n (aN s i t) (aN u i v)):=by unfold PW;have:=AV (e:=2) (k:=0) (vs:=[.bool t,.str (bn v)]) (G:=λi=>[B.bool (s i),.str (bn (u i))]) (λ_=>rfl) h (cT 2);rw[cF]at this;rw[this];show some _=some _;congr 1;refine dB λj _=>?_;grind[jk,aN]
theorem Aw{n:Nat}{s t:Nat->Bool}{u v:Nat->Nat}(h:∀i,i<n->s i=t i/\u i=v i):PW n s u=PW n t v:=dB λi hi=>by grind
def awP:(false==(true==true))=false:=rfl
def awQ:(false==(false==false))=false:=rfl
def awR:(false==(true==false))=true:=rfl
def awS:(false==(false==true))=true:=rfl
attribute [go_sem] z2 aoj atl aok aol atm awP awQ awR awS
def atn{q:Rat}(h:q.den=1):rd q=⟨#[]⟩:=ab h
def ato{q:Rat}(h:q.den≠1):rd q=bn q.den:=ae h
def akn{n:Nat}(h:0<n):decide (bn n=⟨#[]⟩)=false:=az λe=>by grind[Cm]
def nC{b u:Nat}(h:u<=2^b)(hb:b<=400000000):Ep u:=by have:=nK (da h adb);unfold Ep;omega
def adl{σ:St}(hW:WF σ)(q:Rat):aC EN 219 [.agg [.bool (rn q),.str (rs q),.str (rd q)]] σ λr σ'=>r=.c (.str (bn q.den))/\Fr σ σ':=by
 refine aO (nT.o _ _) nT.h ?_;unfold nT;dsimp only;have hFr:=Fr.refl hW;by_cases h:q.den=1
 .have e:=atn h;simp(disch:=try exact jz) only[go_sem,z3,e,gP];exact⟨by rw[h],fr⟩
 .have e:=ato h;have hp:=q.den_pos;simp(disch:=try exact jz) only[go_sem,z3,e,akn hp];exact fr
def YU{σ:St}(hW:WF σ)(s t:Bool){u v:Nat}(hu:Ep u)(hv:Ep v):aC EN 220 [.agg [.bool s,.str (bn u)],.agg [.bool t,.str (bn v)]] σ λr σ'=>r=.agg [.bool (false==(s==t)),.str (bn (u*v))]/\Fr σ σ':=by refine aO (lX.o _ _) lX.h ?_;unfold lX;dsimp only;have hFr:=Fr.refl hW;simp(disch:=try exact jz) only[go_sem,z3];exact fr
def ako{σ:St}(hW:WF σ)(s t:Bool){u v:Nat}(hu:Ep u)(hv:Ep v):aC EN 221 [.agg [.bool s,.str (bn u)],.agg [.bool t,.str (bn v)]] σ λr σ'=>(∃w x,r=.agg [.bool w,.str (bn x)]/\iv w x=iv s u-iv t v)/\Fr σ σ':=by
 refine aO (lY.o _ _) lY.h ?_;unfold lY;dsimp only;have hFr:=Fr.refl hW;by_cases hst:s=t
 .subst hst;have e0:(false==(s==s))=false:=by simp
  by_cases h:v<=u
  .have:=adh s h;simp(disch:=try exact jz) only[go_sem,z3,e0,h,if_true,if_false];exact⟨⟨_,_,rfl,adh s h⟩,fr⟩
  .have h2:u<=v:=jb;simp(disch:=try exact jz) only[go_sem,z3,e0,h,h2,if_true,if_false];exact⟨⟨_,_,rfl,aod s h⟩,fr⟩
 .have e0:(false==(s==t))=true:=by grind
  simp(disch:=try exact jz) only[go_sem,z3,e0];exact⟨⟨_,_,rfl,aoc hst u v⟩,fr⟩
def aom{σ:St}(hW:WF σ)(s t:Bool){u v:Nat}(hu:Ep u)(hv:Ep v)(h0:0<v):aC EN 222 [.agg [.bool s,.str (bn u)],.agg [.bool t,.str (bn v)]] σ λr σ'=>r=.agg [.bool (false==(s==t)),.str (bn (u/v))]/\Fr σ σ':=by refine aO (ng.o _ _) ng.h ?_;unfold ng;dsimp only;have hFr:=Fr.refl hW;simp(disch:=try exact jz) only[go_sem,z3];exact fr
def SY{q:Rat}{z:Int}{Q:Nat}(hQ:0<Q)(h:q=(z:Rat)/(Q:Rat)):q.den∣Q/\q.num.natAbs<=z.natAbs:=by
 have e:q=Ins.fr (!(decide (z<0)==decide ((Q:Int)<0))) z.natAbs (Q:Int).natAbs:=by rw[NR z Q jb];exact h
 rw[ii]at e;obtain⟨h1,h2⟩:=Zm (n:=!(decide (z<0)==decide ((Q:Int)<0))) (x:=z.natAbs) hQ;rw[<-e]at h1 h2;exact⟨by grind[Nat.div_dvd_of_dvd,Nat.gcd_dvd_right],by simp_all[pI,ga]⟩
def atp(q:Rat){c:Nat}(h:q.den∣c):((iv (rn q) (q.num.natAbs*(c/q.den)):Int):Rat)=(c:Rat)*q:=by
 obtain⟨k,rfl⟩:=h;have hd:=q.den_pos;rw[Nat.mul_div_cancel_left _ hd];have e1:iv (rn q) (q.num.natAbs*k)=q.num*k:=by grind[iv,rn]
 have e2:(q.num:Rat)=q*(q.den:Rat):=by grind[iK,Rat.mkRat_self,Rat.mkRat_eq_div]
 have e3:((k:Int):Rat)=(k:Rat):=rfl;rw[e1,dj,e2,fh,e3];grind
theorem abn(c d:Nat):c*(d/Nat.gcd c d)=Nat.lcm c d:=by simp_all[Nat.lcm,Nat.mul_div_assoc,Nat.gcd_dvd_right]
def aon(s:Nat->Bool)(j k:Nat):Bool:=if k<j then s k else false
def aoo(u:Nat->Nat)(j k:Nat):Nat:=if k<j then u k else 0
def akp{m j:Nat}{s:Nat->Bool}{u:Nat->Nat}:PW m (aN (aon s j) j (s j)) (aN (aoo u j) j (u j))=PW m (aon s (j+1)) (aoo u (j+1)):=Aw λk _=>by grind[aN,aon,aoo]
def abo{σ:St}(hW:WF σ){p:Nat->Prop}{v:B}{m:Nat}{r:Nat->Rat}(hr:jc p σ.h v m r)(hm:m<=17){Q b:Nat}(hQ:0<Q)(hQb:Q<=2^b)(hb:b<=50000000)(hz:∀k,k<m->∃z:Int,r k=(z:Rat)/(Q:Rat)/\z.natAbs<=2^b):
  aC EN 192 [.c v] σ λx σ'=>(∃nb c,x=.c (.sl nb 0 m (.ex m))/\σ'.h nb=some ⟨PW m (λk=>rn (r k)) (λk=>(r k).num.natAbs*(c/(r k).den)),none⟩/\σ.aj<=nb/\nb<σ'.aj/\0<c/\c∣Q/\∀k,k<m->(r k).den∣c)/\Fr σ σ':=by
 refine aO (rF.o _ _) rF.h ?_
 unfold rF
 dsimp only
 have hFr:=Fr.refl hW
 have hlen:=aY.len hr
 simp(disch:=try exact jz) only[go_sem,z3,hlen]
 refine bK.mono (Q:=λex tm σ1=>ex=.exit 0/\∃c,Tr.ah tm 0=.c v/\Tr.ah tm 3=.c (.str (bn c))/\0<c/\c∣Q/\(∀k,k<m->(r k).den∣c)/\Fr σ σ1)
  (aF (λq tm σ1=>∃j c,q=m-j/\j<=m/\Tr.ah tm 0=.c v/\Tr.ah tm 3=.c (.str (bn c))/\Tr.ah tm 17=.c v/\Tr.ah tm 18=.c (.int .i64 (.ofNat m))/\Tr.ah tm 19=.c (.int .i64 (.ofNat j))/\0<c/\c∣Q/\(∀k,k<j->(r k).den∣c)/\Fr σ σ1) m ?_ ?_) ?_
 .refine⟨0,1,jb,jb,?_⟩
  simp(disch:=try exact jz) only[go_sem,z3,am]
  exact⟨jj,Nat.one_dvd _,λk h=>absurd h jb,fr⟩
 .rintro q tm σ1 ⟨j,c,rfl,hj,t0,t3,t17,nJ,t19,hc,hcQ,hcd,hf⟩
  have jm:=Fr.refl hf.wf
  simp(disch:=try exact jz) only[go_sem,z3,t0,t3,t17,nJ,t19,aG]
  refine aH (λhlt=>?_) (λhlt=>?_)
  .obtain⟨b7,o7,c7,e7,-,dw⟩:=aY.at3 hr hlt
   have dw:=hf.ld hW dw
   have a7:V.c (.sl b7 o7 m c7)=V.c v:=by rw[e7]
   rw[e7]at t17
   obtain⟨z,ez,hz1⟩:=hz j hlt
   obtain⟨hd,hnum⟩:=SY hQ ez
   have hdp:=(r j).den_pos
   have zc:Ep c:=nC (aw (ia hQ hcQ) hQb) jb
   have zd:Ep (r j).den:=nC (aw (ia hQ hd) hQb) jb
   simp(disch:=try exact jz) only[go_sem,z3,t0,t3,t17,nJ,t19,dw]
   refine aC.st (Fr σ1) (fr) λhF=>?_
   refine(adl hF.wf (r j)).mono ?_
   rintro _ σ2 ⟨rfl,hf2⟩
   have hF2:=(hf.trans hF).trans hf2
   have hgp:0<Nat.gcd c (r j).den:=Nat.gcd_pos_of_pos_left _ hc
   have zg:Ep (Nat.gcd c (r j).den):=nC (aw (aw (Nat.gcd_le_left _ hc) (ia hQ hcQ)) hQb) jb
   have zq:Ep ((r j).den/Nat.gcd c (r j).den):=nC (aw (aw (ga _ _) (ia hQ hd)) hQb) jb
   simp(disch:=try exact jz) only[go_sem,z3,t0,t3,t17,nJ,t19]
   refine⟨m-(j+1),jb,j+1,_,rfl,jb,rfl,a7,rfl,?_,?_,λk hk=>?_,hF2⟩
   .grind[abn,Nat.lcm_pos]
   .grind[abn,Nat.lcm_dvd]
   grind[abn,Nat.dvd_lcm_right]
  .have:j=m:=jb
   subst this
   simp(disch:=try exact jz) only[go_sem,z3,am]
   grind
 .rintro _ tm σ1 ⟨rfl,c,t0,t3,hc,hcQ,hcd,hf1⟩
  have ae2:=Fr.refl hf1.wf
  have hle1:=hf1.le
  have zc:Ep c:=nC (aw (ia hQ hcQ) hQb) jb
  simp(disch:=try exact jz) only[go_sem,z3,t0,t3,hlen]
  refine aF (λq tm σ2=>∃j,q=m-j/\j<=m/\Tr.ah tm 3=.c (.str (bn c))/\Tr.ah tm 10=.c (.sl σ1.aj 0 m (.ex m))/\Tr.ah tm 41=.c v/\Tr.ah tm 42=.c (.int .i64 (.ofNat m))/\Tr.ah tm 43=.c (.int .i64 (.ofNat j))
   /\σ2.h σ1.aj=some ⟨PW m (aon (λk=>rn (r k)) j) (aoo (λk=>(r k).num.natAbs*(c/(r k).den)) j),none⟩/\Fr σ1 σ2/\σ1.aj+1<=σ2.aj) m ?_ ?_
  .refine⟨0,jb,jb,?_⟩
   simp(disch:=try exact jz) only[go_sem,z3,am,t3]
   exact⟨bO (λl=>some (Bk.mk l none)) (Aw λk _=>⟨(ae jb).symm,(ae jb).symm⟩),fr,jb⟩
  .rintro q tm σ2 ⟨j,rfl,hj,t3,t10,t41,t42,t43,q10,hf2,hnx⟩
   have KN:=Fr.refl hf2.wf
   have hle2:=hf2.le
   simp(disch:=try exact jz) only[go_sem,z3,t3,t10,t41,t42,t43,aG]
   refine aH (λhlt=>?_) (λhlt=>?_)
   .obtain⟨b7,o7,c7,e7,-,dw⟩:=aY.at3 hr hlt
    have dw:=(hf1.trans hf2).ld hW dw
    have a7:V.c (.sl b7 o7 m c7)=V.c v:=by rw[e7]
    rw[e7]at t41
    obtain⟨z,ez,hz1⟩:=hz j hlt
    obtain⟨hd,hnum⟩:=SY hQ ez
    have hdp:=(r j).den_pos
    have zd:Ep (r j).den:=nC (aw (ia hQ hd) hQb) jb
    have zn:Ep (r j).num.natAbs:=nC (aw hnum hz1) jb
    have zq:Ep (c/(r j).den):=nC (aw (aw (ga _ _) (ia hQ hcQ)) hQb) jb
    simp(disch:=try exact jz) only[go_sem,z3,t3,t10,t41,t42,t43,dw]
    refine aC.st (Fr σ2) (fr) λhF=>?_
    refine(adl hF.wf (r j)).mono ?_
    rintro _ σ3 ⟨rfl,hf3⟩
    have awT:=hf3.get hF.wf (hF.get hf2.wf q10)
    have q12:σ3.h σ2.aj=some ⟨[.bool (rn (r j)),.str (rs (r j)),.str (rd (r j))],none⟩:=hf3.get hF.wf (aA _ _ _)
    have hle3:σ2.aj+1<=σ3.aj:=hf3.le
    have hrs:rs (r j)=bn (r j).num.natAbs:=rfl
    have hF3:=(hf2.trans hF).trans hf3
    have hst:=akp (m:=m) (j:=j) (s:=λk=>rn (r k)) (u:=λk=>(r k).num.natAbs*(c/(r k).den))
    simp(disch:=try exact jz) only[go_sem,z3,t3,t10,t41,t42,t43,ak q12,q12,hrs,awT,aI awT,hst]
    exact⟨m-(j+1),jb,j+1,rfl,jb,a7,rfl,rfl,fr,jb⟩
   .have:j=m:=jb
    subst this
    simp(disch:=try exact jz) only[go_sem,z3,t10]
    refine⟨⟨_,c,rfl,?_,jb,jb,hc,hcQ,hcd⟩,hf1.trans hf2⟩
    rw[q10]
    exact bO (λl=>some (Bk.mk l none)) (Aw λk hk=>⟨ab hk,ab hk⟩)
structure Az(h:Tr Bk)(mb n m:Nat)(A:Nat->Nat->Rat)(bs:Nat->Nat)(lo hi:Nat):Prop where
 o:h mb=some ⟨ones n λi=>.sl (bs i) 0 m .opn,none⟩
 r:∀i,i<n->h (bs i)=some ⟨cO m (A i),some (3,50)⟩/\lo<=bs i/\bs i<hi
 inj:∀i j,i<n->j<n->bs i=bs j->i=j
 b:mb<lo
 l:lo<=hi
def Az.rows{h:Tr Bk}{mb n m lo hi:Nat}{A:Nat->Nat->Rat}{bs:Nat->Nat}(hM:Az h mb n m A bs lo hi){p:Nat->Prop}(hp:∀b,b=mb\/lo<=b/\b<hi->p b):dY p h (.sl mb 0 n (.ex n)) n (λ_=>m) A:=
 ⟨λi=>.sl (bs i) 0 m .opn,bf _ hM.o rfl (hp _ (.inl rfl)) (λ_=>rfl) jj (λ_ _=>rfl),λi hi=>bf _ (hM.r i hi).1 (Df _ _ jj) (hp _ (.inr (hM.r i hi).2)) (λ_=>rfl) jj λ_ _=>rfl⟩
def JW(m:Nat)(bs:Nat->Nat)(i:Nat)(v:B)(k:Nat):B:=if k<i then .sl (bs k) 0 m .opn else if k=i then v else .aX
def atq{n m:Nat}{bs:Nat->Nat}:ones n (λ_=>B.aX)=ones n (JW m bs 0 .aX):=bF λk _=>by grind[JW]
def akq{n m i:Nat}{bs:Nat->Nat}(v w:B):ones n (aN (JW m bs i v) i w)=ones n (JW m bs i w):=bF λk _=>by grind[aN,JW]
def afD{n m i b:Nat}{bs:Nat->Nat}:ones n (JW m bs i (.sl b 0 m .opn))=ones n (JW m (aN bs i b) (i+1) .aX):=bF λk _=>by grind[JW,aN]
def PN{σ:St}(hW:WF σ){p:Nat->Prop}{v:B}{n m:Nat}{A:Nat->Nat->Rat}(hA:dY p σ.h v n (λ_=>m) A)(hn2:n<=16)(hm:0<m)(hm2:m<=17)(hz:∀i k,i<n->k<m->Sz (A i k)):
  aC EN 191 [.c v] σ λr σ'=>(∃mb bs,r=.c (.sl mb 0 n (.ex n))/\σ.aj<=mb/\Az σ'.h mb n m A bs (mb+1) σ'.aj)/\Fr σ σ':=by
 refine aO (xR.o _ _) xR.h ?_
 unfold xR
 dsimp only
 have hFr:=Fr.refl hW
 have hlen:=hA.len
 simp(disch:=try exact jz) only[go_sem,z3,hlen]
 refine aF (λq tm σ'=>∃i bs,q=n-i/\i<=n/\Tr.ah tm 3=.c (.sl σ.aj 0 n (.ex n))/\Tr.ah tm 11=.c v/\Tr.ah tm 12=.c (.int .i64 (.ofNat n))/\Tr.ah tm 13=.c (.int .i64 (.ofNat i))
  /\σ'.h σ.aj=some ⟨ones n (JW m bs i .aX),none⟩/\(∀k,k<i->σ'.h (bs k)=some ⟨cO m (A k),some (3,50)⟩/\σ.aj+1<=bs k/\bs k<σ'.aj)/\(∀k l,k<i->l<i->bs k=bs l->k=l)/\Fr σ σ'/\σ.aj+1<=σ'.aj) n ?_ ?_
 .refine⟨0,λ_=>0,jb,jb,?_⟩
  simp(disch:=try exact jz) only[go_sem,z3,am]
  exact⟨bO (λl=>some (Bk.mk l none)) atq,λk h=>absurd h jb,λk l h=>absurd h jb,fr,jb⟩
 .rintro q tm σ' ⟨i,bs,rfl,hi,t3,t11,t12,t13,q3,hr,hinj,hf,hnx⟩
  have hle:=hf.le
  simp(disch:=try exact jz) only[go_sem,z3,t3,t11,t12,t13,aG]
  refine aH (λhlt=>?_) (λhlt=>?_)
  .obtain⟨b6,o6,c6,T,e6,-,bH,hT⟩:=hA.at hlt
   have bH:=hf.ld hW bH
   have hlT:=aY.len hT
   have a6:V.c (.sl b6 o6 n c6)=V.c v:=by rw[e6]
   rw[e6]at t11
   simp(disch:=try exact jz) only[go_sem,z3,t3,t11,t12,t13,bH,hlT]
   refine bK.mono (Q:=λex tm σ4=>ex=.exit 2/\∃b,Tr.ah tm 3=.c (.sl σ.aj 0 n (.ex n))/\Tr.ah tm 11=.c (.sl b6 o6 n c6)/\Tr.ah tm 12=.c (.int .i64 (.ofNat n))/\Tr.ah tm 13=.c (.int .i64 (.ofNat i))
     /\σ4.h σ.aj=some ⟨ones n (JW m bs i (aS m b)),none⟩/\NF NoQ σ4.h b m (λc=>gy (A i c)) 3 50 σ'.aj σ4.aj/\aU [σ.aj] σ' σ4)
    (aF (λq tm σ4=>∃j b,q=m-j/\j<=m/\Tr.ah tm 3=.c (.sl σ.aj 0 n (.ex n))/\Tr.ah tm 4=.c (.int .i64 (.ofNat i))/\Tr.ah tm 11=.c (.sl b6 o6 n c6)/\Tr.ah tm 12=.c (.int .i64 (.ofNat n))/\Tr.ah tm 13=.c (.int .i64 (.ofNat i))
     /\Tr.ah tm 18=.c T/\Tr.ah tm 19=.c (.int .i64 (.ofNat m))/\Tr.ah tm 20=.c (.int .i64 (.ofNat j))
     /\σ4.h σ.aj=some ⟨ones n (JW m bs i (aS j b)),none⟩/\NF NoQ σ4.h b j (λc=>gy (A i c)) 3 50 σ'.aj σ4.aj/\aU [σ.aj] σ' σ4) m ?_ ?_) ?_
   .refine⟨0,σ'.aj,jb,jb,?_⟩
    simp(disch:=try exact jz) only[go_sem,z3,t3,t11,t12,t13,am]
    exact⟨q3,NF.nil λ_=>rfl,aU.refl hf.wf⟩
   .rintro q VU σ4 ⟨j,b,rfl,hj,t3,t4,t11,t12,t13,nJ,t19,t20,q4,hN,hf4⟩
    have uo:=hf4.le
    have hg:=hN.g
    have hl1:=hN.l1
    have hl2:=hN.l2
    have hL:=hN.L
    simp(disch:=try exact jz) only[go_sem,z3,t3,t4,t11,t12,t13,nJ,t19,t20,aG]
    refine aH (λYV=>?_) (λYV=>?_)
    .obtain⟨b7,o7,c7,e7,-,dw⟩:=aY.at3 hT YV
     have awC:=hW.dF dw
     have dw:=hf4.ld hf.wf kd (hf.ld hW dw)
     have a7:V.c (.sl b7 o7 m c7)=V.c T:=by rw[e7]
     rw[e7]at nJ
     have z1:=hz i j hlt YV
     have Cc:=aU.refl (ex:=[σ.aj]) hf4.wf
     have hnl:=hf4.wf.lt q4
     have eT:JW m bs i (aS j b) i=aS j b:=by unfold JW;rw[ae jb,ab rfl]
     simp(disch:=try exact jz) only[go_sem,z3,t3,t4,t11,t12,t13,nJ,t19,t20,dw,abP,ak q4,q4,eT,hg,aI q4,akq]
     refine⟨m-(j+1),jb,j+1,σ4.aj+1+1,rfl,jb,a7,rfl,rfl,?_,by repeat(first|assumption|exact aU.refl (by assumption)|exact aU.up (by assumption) kf|exact aU.up (aU.refl (by assumption)) kf|refine aU.set1 ?_ kg kf|refine aU.kF ?_ kg|refine aU.nR ?_ kg|refine aU.oH ?_ kf)⟩
     refine hN.push (hi1:=σ4.aj) (h1:=σ4.h) (λ_ _=>BN _) (λ_ _ _ _ h=>h) trivial (λ_ _ _=>rfl) jp jb jb jb ((au _ _ _ _ jb).trans (aA _ _ _)) rfl (λc h1 h2 h3=>?_) (λ_ _=>rfl) (λ_=>rfl)
     grind[au,dP]
    .have:j=m:=jb
     subst this
     simp(disch:=try exact jz) only[go_sem,z3,am]
     exact⟨b,t3,t11,t12,t13,q4,hN,hf4⟩
   .rintro _ VU σ4 ⟨rfl,b,t3,t11,t12,t13,q4,hN,hf4⟩
    have uo:=hf4.le
    rw[rX hm,afD]at q4
    simp(disch:=try exact jz) only[go_sem,z3,t3,t11,t12,t13]
    have hl1:=hN.l1
    have hl2:=hN.l2
    have hg:σ4.h b=some ⟨cO m (A i),some (3,50)⟩:=by
     have:=hN.g;cases m with
     |zero=>omega
     |succ m=>exact this
    refine⟨n-(i+1),jb,i+1,aN bs i b,rfl,jb,a6,rfl,q4,λk hk=>?_,λk l hk hl e=>?_,aU.to hf hf4 (λb hb=>by simp at hb;omega),jb⟩
    .by_cases e:k=i
     .subst e;rw[aP];exact⟨hg,jb,jb⟩
     .obtain⟨k1,k2,k3⟩:=hr k jb
      rw[aQ _ _ _ _ e]
      exact⟨hf4.get hf.wf (by simp<;>omega) k1,k2,jb⟩
    .by_cases e1:k=i<;>by_cases e2:l=i
     .omega
     .exfalso
      rw[e1,aP,aQ _ _ _ _ e2]at e
      have:=(hr l jb).2.2;omega
     .exfalso
      rw[e2,aP,aQ _ _ _ _ e1]at e
      have:=(hr k jb).2.2;omega
     .rw[aQ _ _ _ _ e1,aQ _ _ _ _ e2]at e
      exact hinj k l jb jb e
  .have:i=n:=jb
   subst this
   simp(disch:=try exact jz) only[go_sem,z3,t3]
   refine⟨⟨σ.aj,bs,rfl,jp,⟨?_,hr,hinj,jb,jb⟩⟩,hf⟩
   rw[q3]
   exact bO (λl=>some (Bk.mk l none)) (bF λk hk=>ab hk)
end Go.Proofs.Xe
