import Derived.Test.YtjhhfbbndfpdaaaGreatDoorYg45
set_option linter.all false
set_option maxRecDepth 100000
set_option maxHeartbeats 8000000
attribute [-go_sem] Go.Proofs.Xe.ayo Go.Proofs.Xe.ayp Go.Proofs.Xe.ayq
namespace Go.Proofs.Xe
open Go.RowKit Go.Proofs.Ins
def pV(n:Nat)(A:Nat->Nat->Rat)(bv:Nat->Rat)(i k:Nat):Rat:=if k<n then A i k else bv i
def amJ{n:Nat}{A:Nat->Nat->Rat}{bv:Nat->Rat}{i:Nat}:cO (n+1) (aJ (A i) n (bv i))=cO (n+1) (pV n A bv i):=dU λk hk=>by grind[aJ,pV]
def ahY(m:Nat)(ws:Nat->Nat)(i k:Nat):B:=if k<i then .sl (ws k) 0 m (.ex m)else .aO
def amK{n m i b:Nat}{ws:Nat->Nat}:ones n (aJ (ahY m ws i) i (.sl b 0 m (.ex m)))=ones n (ahY m (aJ ws i b) (i+1)):=dF λk _=>by grind[aJ,ahY]
def Ih(n:Nat)(A:Nat->Nat->Rat)(bv:Nat->Rat)(i k:Nat):Bool:=rn (pV n A bv i k)
def Fh(n:Nat)(A:Nat->Nat->Rat)(bv:Nat->Rat)(cc:Nat->Nat)(i k:Nat):Nat:=(pV n A bv i k).num.natAbs*(cc i/(pV n A bv i k).den)
structure amL(n:Nat)(A:Nat->Nat->Rat)(bv:Nat->Rat)(Q:Nat)(h:Tr Bk)(ws cc:Nat->Nat)(i lo hi:Nat):Prop where
 r:∀k,k<i->h (ws k)=some ⟨Tf (n+1) (Ih n A bv k) (Fh n A bv cc k),none⟩/\lo<=ws k/\ws k<hi
 inj:∀k l,k<i->l<i->ws k=ws l->k=l
 c:∀k,k<i->0<cc k/\cc k∣Q/\∀j,j<n+1->(pV n A bv k j).den∣cc k
def amL.up{n:Nat}{A:Nat->Nat->Rat}{bv:Nat->Rat}{Q:Nat}{h h':Tr Bk}{ws cc:Nat->Nat}{i lo hi hi' nb c:Nat}(hR:amL n A bv Q h ws cc i lo hi)(hk:∀b,lo<=b->b<hi->h' b=h b)(hl:lo<=hi)(h1:h' nb=some ⟨Tf (n+1) (λk=>rn (pV n A bv i k)) (λk=>(pV n A bv i k).num.natAbs*(c/(pV n A bv i k).den)),none⟩)(h2:hi<=nb)(h3:nb<hi')(hc:0<c)(hcQ:c∣Q)(hcd:∀j,j<n+1->(pV n A bv i j).den∣c):amL n A bv Q h' (aJ ws i nb) (aJ cc i c) (i+1) lo hi':=by
 refine⟨λk hk1=>?_,λk l hk1 hl1 e=>?_,λk hk1=>?_⟩
 .by_cases e:k=i
  .subst e;rw[aI];refine⟨?_,jb,h3⟩;rw[h1];congr 2;refine BK λj _=>⟨rfl,?_⟩
   unfold Fh;rw[aI]
  .obtain⟨k1,k2,k3⟩:=hR.r k jb;grind[Go.Proofs.Xe.aQ,Go.Proofs.Xe.BK,Go.Proofs.Xe.Fh]
 .by_cases e1:k=i<;>by_cases e2:l=i
  .omega
  .exfalso;rw[e1,aI,aQ _ _ _ _ e2]at e;have:=(hR.r l jb).2.2;omega
  .exfalso;rw[e2,aI,aQ _ _ _ _ e1]at e;have:=(hR.r k jb).2.2;omega
  .rw[aQ _ _ _ _ e1,aQ _ _ _ _ e2]at e;exact hR.inj k l jb jb e
 .by_cases e:k=i
  .grind[aI]
  .rw[aQ _ _ _ _ e];exact hR.c k jb
def aaV(n:Nat)(A:Nat->Nat->Rat)(bv:Nat->Rat)(B:Nat->Nat->Rat):Prop:=
 (∀z:Nat->Rat,(∀i,i<n->aB n (λl=>B i l*z l)=B i n)->∀i,i<n->aB n (λl=>A i l*z l)=bv i)/\∀z:Nat->Rat,(∀i,i<n->aB n (λj=>B i j*z j)=0)->∀j,j<n->z j=0
def aaV.swap{n:Nat}{A B:Nat->Nat->Rat}{bv:Nat->Rat}(h:aaV n A bv B){r p:Nat}(hr:r<n)(hp:p<n):aaV n A bv λi=>B (swp r p i):=by
 refine⟨λz hz=>h.1 z λi hi=>?_,λz hz=>h.2 z λi hi=>?_⟩
 .have:=hz _ (qF hr hp hi);grind[OD]
 .have:=hz _ (qF hr hp hi);grind[OD]
def aaV.start{n:Nat}{A B:Nat->Nat->Rat}{bv:Nat->Rat}{c:Nat->Rat}(hc:∀i,i<n->c i≠0)(hB:∀i k,i<n->k<n+1->B i k=c i*pV n A bv i k)(hinj:∀z:Nat->Rat,(∀i,i<n->aB n (λj=>A i j*z j)=0)->∀j,j<n->z j=0):aaV n A bv B:=by
 have e:∀(z:Nat->Rat) i,i<n->aB n (λl=>B i l*z l)=c i*aB n λl=>A i l*z l:=λz i hi=>by rw[<-gX];grind[Go.Proofs.Ins.aP,Go.Proofs.Xe.pV]
 have cz:∀i,i<n->∀y:Rat,c i*y=0->y=0:=λi hi y h=>by grind
 refine⟨λz hz i hi=>?_,λz hz=>hinj z λi hi=>?_⟩
 .have h1:=hz i hi;rw[e z i hi,hB i n hi jb]at h1;grind[pV]
 .have h1:=hz i hi;rw[e z i hi]at h1;grind
def NK.u{n a:Nat}{S:Nat->Nat->Bool}{U:Nat->Nat->Nat}(h:NK n a (jk S U)){i j:Nat}(hi:i<n)(hj:j<n+1):U i j<=2^a:=by obtain⟨z,ez,hz⟩:=h i j hi jb;unfold jk at ez;have:=bp Int.natAbs (eJ.mp ez);grind[AL]
def amM(r p i:Nat):swp r p i=swp p r i:=by grind[swp]
def av7{b n k:Nat}(h:k<n):Dk 1 (.c (.sl b 0 n (.ex n))) (some (jN k)) none none=some (.c (.sl b (k*1) (n-k) (.ex (n-k)))):=by grind[Dk,Jg,DX,nV,CY]
def aqO{J:St}(hW:WF J){p p':Nat->Prop}{v w:B}{n:Nat}{A:Nat->Nat->Rat}{bv:Nat->Rat}(hA:dQ p J.h v n (λ_=>n) A)(hb:kX p' J.h w n bv)(hn:0<n)(hn2:n<=16){Q b:Nat}(hQ:0<Q)(hQb:Q<=2^b)(hz:∀i k,i<n->k<n+1->∃z:Int,pV n A bv i k=(z:Rat)/(Q:Rat)/\z.natAbs<=2^b)(hb2:NI b n<=20000000)
  (hinj:∀z:Nat->Rat,(∀i,i<n->aB n (λj=>A i j*z j)=0)->∀j,j<n->z j=0):
  aC EN 131 [.c v,.c w] J λr J'=>(∃nb W p,r=.aV (.c (.sl nb 0 n (.ex n))) (.aV (jN 0) .tnil)/\J'.h nb=some ⟨cO n (λi=>W i n/W i i),none⟩/\J.aj<=nb/\nb<J'.aj/\NK n (NI b n) W/\(∀i,i<n->W i i=p)/\p≠0/\∀i,i<n->aB n (λl=>A i l*(W l n/W l l))=bv i)/\Fr J J':=by
 refine aN (yJ.o _ _) yJ.h ?_
 unfold yJ
 dsimp only
 have hlen:=hA.len
 have hlw:=aZ.len hb
 obtain⟨b6,o6,c6,T,rfl,-,bJ,hT⟩:=hA.at hn
 have vg:ld J.h b6 (o6+0*1) 1 false=some (.c T):=bJ
 have hlT:=aZ.len hT
 have hxa:=amm b n
 have hzs:∀i k,i<n->k<n->Sz (A i k):=λi k hi hk=>by obtain⟨z,ez,hz1⟩:=hz i k hi jb;have e:pV n A bv i k=A i k:=ab hk;rw[e]at ez;exact(show mQ b (A i k)from⟨z,Q,hQ,hQb,hz1,ez⟩).sz jb
 have hzg:∀i k,i<n->k<n+1->Sz (pV n A bv i k):=λi k hi hk=>by obtain⟨z,ez,hz1⟩:=hz i k hi hk;exact(show mQ b (pV n A bv i k)from⟨z,Q,hQ,hQb,hz1,ez⟩).sz jb
 have hsq:=λ(args:List V) (J:St) (K:V->St->Prop)=>lW (E:=EN) (K:=K) (wX.o args J) wX.h
 unfold wX at hsq
 dsimp only at hsq
 simp(disch:=try exact jz)only[go_sem,hsq]
 refine(aaM hW hA hn hn2 hn hn2).mono ?_
 rintro _ σ1 ⟨rfl,hf1⟩
 have vg:=hf1.ld hW vg
 have WR:=Fr.refl hf1.wf
 simp(disch:=try exact jz)only[go_sem,ofNat_eq,hlen,hlT,vg,hlw,gd]
 refine aC.st (Fr σ1) (fr) λhF=>?_
 have hF1:=hf1.trans hF
 refine(SG hF.wf (hA.fr hW hF1) hn2 hn jb hzs).mono ?_
 rintro _ σ2 ⟨⟨mb,bs,rfl,hmb,hM⟩,hf2⟩
 have hw0:σ2.h σ1.aj=some ⟨ones n λ_=>.aO,none⟩:=hf2.get hF.wf (ay _ _ _)
 have hmb:σ1.aj+1<=mb:=hmb
 have hF2:=hF1.trans hf2
 have hb0:=hM.b
 have hl0:=hM.l
 refine WN ?_
 refine bM.mono (Q:=λex tm σ4=>ex=.exit 0/\∃ws cc,r8 tm 7=jN n/\r8 tm 8=.c (.sl σ1.aj 0 n (.ex n))/\σ4.h σ1.aj=some ⟨ones n (ahY (n+1) ws n),none⟩/\amL n A bv Q σ4.h ws cc n σ2.aj σ4.aj/\Fr J σ4/\σ2.aj<=σ4.aj)
  (aF (λx tm σ4=>∃i ws cc,x=n-i/\i<=n/\r8 tm 1=.c w/\r8 tm 7=jN n/\r8 tm 8=.c (.sl σ1.aj 0 n (.ex n))/\r8 tm 31=.c (.sl mb 0 n (.ex n))/\r8 tm 32=jN n/\r8 tm 33=jN i
   /\σ4.h σ1.aj=some ⟨ones n (ahY (n+1) ws i),none⟩/\amL n A bv Q σ4.h ws cc i σ2.aj σ4.aj/\σ4.h mb=some ⟨ones n λi=>.sl (bs i) 0 n .opn,none⟩/\(∀k,i<=k->k<n->σ4.h (bs k)=some ⟨cO n (A k),some (3,44)⟩)/\Fr J σ4/\σ2.aj<=σ4.aj) n ?_ ?_) ?_
 .refine⟨0,λ_=>0,λ_=>0,jb,jb,?_⟩
  refine WN ?_
  exact⟨hw0.trans (bp (λl=>some (Bk.mk l none)) (dF λk _=>by unfold ahY;rw[ae jb])),⟨λk h=>absurd h jb,λk l h=>absurd h jb,λk h=>absurd h jb⟩,hM.o,λk _ hk=>(hM.r k hk).1,hF2,jp⟩
 .rintro x tm σ4 ⟨i,ws,cc,rfl,hi1,t1,t7,t8,t31,t32,t33,q8,hR,qm,hrest,hf4,hn4⟩
  refine W2 ?_
  refine aH (λhlt=>?_) (λhlt=>?_)
  .have qr:=hrest i jp hlt
   obtain⟨-,g1,g2⟩:=hM.r i hlt
   obtain⟨b7,o7,c7,e7,-,cZ⟩:=aZ.at3 hb hlt
   have azO:=hW.dh cZ
   have hle1:=hf1.le
   have cZ:=hf4.ld hW cZ
   have a7:V.c (.sl b7 o7 n c7)=V.c w:=by rw[e7]
   rw[e7]at t1
   have hl8:=hf4.wf.lt q8
   have hlr:=hf4.wf.lt qr
   have hFe:=aU.refl (ex:=[bs i]) hf4.wf
   have h5:=ajO n (A i)
   have hag:=amJ (n:=n) (A:=A) (bv:=bv) (i:=i)
   simp(disch:=try exact jz)only[go_sem,W3,au qm,qm,au qr,qr,cZ,hag]
   refine aC.st (aU [bs i] σ4) (by repeat(first|assumption|exact aU.refl (by assumption)|exact aU.up (by assumption) kf|exact aU.up (aU.refl (by assumption)) kf|refine aU.set1 ?_ kg kf|refine aU.jV ?_ kg|refine aU.mX ?_ kg|refine aU.nX ?_ kf)) λdY=>?_
   have qr5:(hset (hset (hdel (hset σ4.h σ4.aj ⟨(rK (bv i)),none⟩) (bs i)) (σ4.aj+1) ⟨cO (n+1) (pV n A bv i),some (3,44)⟩) (σ4.aj+1+1) ⟨[.sl (σ4.aj+1) 0 (n+1) .opn],none⟩) (σ4.aj+1)=some ⟨cO (n+1) (pV n A bv i),some (3,44)⟩:=(ak _ _ _ _ jb).trans (ay _ _ _)
   have HR5:dQ (λ_=>True) (hset (hset (hdel (hset σ4.h σ4.aj ⟨(rK (bv i)),none⟩) (bs i)) (σ4.aj+1) ⟨cO (n+1) (pV n A bv i),some (3,44)⟩) (σ4.aj+1+1) ⟨[.sl (σ4.aj+1) 0 (n+1) .opn],none⟩) (.sl (σ4.aj+1+1) 0 1 (.ex 1)) 1 (λ_=>n+1) λ_=>pV n A bv i:=
    ⟨λ_=>.sl (σ4.aj+1) 0 (n+1) .opn,bD (n:=1) (G:=λ_=>[.sl (σ4.aj+1) 0 (n+1) .opn]) _ (ay _ _ _) rfl trivial (λ_=>rfl) jj (λ_ _=>rfl),λj _=>bD (G:=λc=>dP (pV n A bv i c)) _ qr5 (Bd _ _ jj) trivial (λ_=>rfl) jj λ_ _=>rfl⟩
   refine(SG dY.wf HR5 jj jb jb λ_ k _ hk=>hzg i k hlt hk).mono ?_
   rintro _ σ6 ⟨⟨m2,b2,rfl,hm2,hM2⟩,iD⟩
   have qm2:=hM2.o
   have qr2:=(hM2.r 0 jj).1
   have zC:σ4.aj+1+1+1<=σ6.aj:=iD.le
   simp(disch:=try exact jz)only[go_sem,W3,au qm2,qm2]
   refine(ade (p:=λ_=>True) iD.wf (bD (G:=λc=>dP (pV n A bv i c)) _ qr2 (Bd _ _ jj) trivial (λ_=>rfl) jj λ_ _=>rfl) jb hQ hQb jb λk hk=>hz i k hlt hk).mono ?_
   rintro _ σ7 ⟨⟨nb,c,rfl,hnb,g3,g4,hc,hcQ,hcd⟩,wz⟩
   have av8:=iD.trans wz
   have nS:aU [bs i] σ4 σ7:=dY.to' (ex:=[]) ⟨av8.le,av8.wf,λb hb _=>av8.old b hb⟩ kc
   have ap4:=nS.le
   have q87:=nS.get hf4.wf (by simp;omega) q8
   have qm7:=nS.get hf4.wf (by simp;omega) qm
   have hst:=amK (n:=n) (m:=n+1) (i:=i) (b:=nb) (ws:=ws)
   simp(disch:=try exact jz)only[go_sem,W3,q87,aG q87,hst]
   refine⟨n-(i+1),jb,i+1,aJ ws i nb,aJ cc i c,rfl,jb,a7,rfl,rfl,hR.up (λb h1 h2=>(ak _ _ _ _ jb).trans (nS.old b h2 (by simp;omega))) hn4 ((ak _ _ _ _ jb).trans hnb) jb g4 hc hcQ hcd,qm7,λk h1 h2=>?_,?_,jb⟩
   .obtain⟨-,k1,k2⟩:=hM.r k h2
    have hne:bs k≠bs i:=λe=>by have:=hM.inj k i h2 hlt e;omega
    exact(ak _ _ _ _ jb).trans (nS.get hf4.wf (by simpa using hne) (hrest k jb h2))
   .have xQ:=aU.to hf4 nS (λb hb=>by simp at hb;omega)
    exact fr
  .have:i=n:=jb
   subst this
   simp(disch:=try exact jz)only[go_sem,am]
   exact⟨ws,cc,t7,t8,q8,hR,hf4,hn4⟩
 .rintro _ tm4 σ4 ⟨rfl,ws,cc,t7,t8,q8,hR,hf4,hn4⟩
  have pK:=hf4.le
  have hle1:=hf1.le
  have hM4:AP σ4.h σ1.aj n (n+1) (Ih n A bv) (Fh n A bv cc) ws σ2.aj σ4.aj:=⟨by rw[q8];exact bp (λl=>some (Bk.mk l none)) (dF λk hk=>ab hk),hR.r,hR.inj,jb,hn4⟩
  have hval:∀i k,i<n->k<n+1->jk (Ih n A bv) (Fh n A bv cc) i k=(cc i:Rat)*pV n A bv i k:=λi k hi hk=>av1 _ ((hR.c i hi).2.2 k hk)
  have hI4:NK n b (jk (Ih n A bv) (Fh n A bv cc)):=λi k hi hk=>by
   obtain⟨z,ez,hz1⟩:=hz i k hi jb;obtain⟨c1,c2,c3⟩:=hR.c i hi;refine⟨iv (Ih n A bv i k) (Fh n A bv cc i k),rfl,?_⟩;have h1:=hval i k hi jb;obtain⟨d,hd⟩:=c2;have hc0:=iJ c1;have hd0:0<d:=eo λe=>by rw[e]at hd;omega
   have hdr:=iJ hd0;have h2:((iv (Ih n A bv i k) (Fh n A bv cc i k)*(d:Int):Int):Rat)=((z:Int):Rat):=by
    rw[cV];have e1:((iv (Ih n A bv i k) (Fh n A bv cc i k):Int):Rat)=jk (Ih n A bv) (Fh n A bv cc) i k:=rfl;have e2:((d:Int):Rat)=(d:Rat):=rfl;have e3:(Q:Rat)=(cc i:Rat)*(d:Rat):=by rw[hd,eI]
    rw[e1,e2,h1,ez,e3];grind
   have h3:=bp Int.natAbs (eJ.mp h2);rw[eV,gL]at h3;have h4:(iv (Ih n A bv i k) (Fh n A bv cc i k)).natAbs<=(iv (Ih n A bv i k) (Fh n A bv cc i k)).natAbs*d:=fo _ hd0;omega
  have hS4:aaV n A bv (jk (Ih n A bv) (Fh n A bv cc)):=aaV.start (c:=λi=>(cc i:Rat)) (λi hi=>iJ (hR.c i hi).1) hval hinj
  have hB4:Bar n 0 (jk (Ih n A bv) (Fh n A bv cc)) (jk (Ih n A bv) (Fh n A bv cc)) ((iv false 1:Int):Rat):=ahQ λi j _ _=>⟨_,rfl⟩
  clear hR hval
  have EC:=Fr.refl hf4.wf
  have aDG:=aU.refl (ex:=[]) hf4.wf
  refine WP ?_
  refine bM.mono (Q:=λex tm σ5=>ex=.exit 2/\∃S U bs p,r8 tm 7=jN n/\r8 tm 8=.c (.sl σ1.aj 0 n (.ex n))/\AP σ5.h σ1.aj n (n+1) S U bs σ2.aj σ4.aj/\NK n (NI b n) (jk S U)/\(∀i,i<n->jk S U i i=p)/\p≠0/\(∀i,i<n->aB n (λl=>A i l*(jk S U l n/jk S U l l))=bv i)/\Fr J σ5/\σ4.aj<=σ5.aj)
   (aF (λx tm σ5=>∃k S U bs t v B,x=n-k/\k<=n/\r8 tm 7=jN n/\r8 tm 8=.c (.sl σ1.aj 0 n (.ex n))/\r8 tm 11=.c (.ptr σ4.aj 0)/\r8 tm 56=jN n/\r8 tm 57=jN k
    /\σ5.h σ4.aj=some ⟨[.bool t,.str (bn v)],none⟩/\AP σ5.h σ1.aj n (n+1) S U bs σ2.aj σ4.aj/\Bar n k B (jk S U) ((iv t v:Int):Rat)/\NK n (NI b k) (jk S U)/\v<=2^NI b k/\aaV n A bv B/\Fr J σ5/\σ4.aj+1<=σ5.aj) n ?_ ?_) ?_
  .refine⟨0,Ih n A bv,Fh n A bv cc,ws,false,1,jk (Ih n A bv) (Fh n A bv cc),jb,jb,?_⟩
   refine W0 ?_
   exact⟨hM4.keep λb hb=>by rw[ak _ _ _ _ jb,ak _ _ _ _ jb],hB4,hI4,gH,hS4,fr,jp⟩
  .rintro x tm5 σ5 ⟨k,S,U,bs,t,v,B,rfl,hk,t7,t8,t11,t56,t57,q11,hM5,hB5,hI5,hv5,hS5,hf5,hn5⟩
   refine W2 ?_
   refine aH (λhlt=>?_) (λhlt=>?_)
   .have JQ:=Fr.refl hf5.wf
    have hsl:=av7 (b:=σ1.aj) hlt
    have hxk:=BJ b (show k+1<=n by omega)
    have aDH:NI b (k+1)=2*NI b k+1:=rfl
    simp(disch:=try exact jz)only[go_sem,W3,hsl]
    refine aC.st (Fr σ5) (fr) λiR=>?_
    have hb5:=hM5.b
    have hl5:=hM5.l
    obtain⟨i0,j1,j2,j3⟩:=hB5.pivot hlt hS5.2
    refine(av4 iR.wf (hM5.keep λb hb=>iR.old b jb) hn2 jb hlt jb (ay _ _ _) ⟨i0,j1,j2,λe=>j3 (by unfold jk;rw[(amn _).mpr e];rfl)⟩).mono ?_
    rintro _ σ7 ⟨⟨a,rfl,ha,hUa⟩,wz⟩
    have nS:=iR.trans wz
    have ap4:=nS.le
    have aCD:σ5.aj+1<=σ7.aj:=wz.le
    have hM7:AP σ7.h σ1.aj n (n+1) S U bs σ2.aj σ4.aj:=hM5.keep λb hb=>nS.old b jb
    have alR:=nS.get hf5.wf q11
    have qk7:σ7.h σ5.aj=some ⟨[.int .i64 (.ofNat k)],none⟩:=wz.get iR.wf (ay _ _ _)
    have q0:=hM7.o
    have hst:=afj (n:=n) (r:=k+a) (p:=k) (f:=λi=>.sl (bs i) 0 (n+1) (.ex (n+1)))
    simp only[amM (k+a) k]at hst
    have aDI:=aU.refl (ex:=[σ1.aj]) wz.wf
    simp(disch:=try exact jz)only[go_sem,W3,ahS,au q0,q0,aG q0,au qk7,qk7,au alR,alR,hst]
    refine aC.st (aU [σ1.aj] σ7) (by repeat(first|assumption|exact aU.refl (by assumption)|exact aU.up (by assumption) kf|exact aU.up (aU.refl (by assumption)) kf|refine aU.set1 ?_ kg kf|refine aU.jV ?_ kg|refine aU.mX ?_ kg|refine aU.nX ?_ kf)) λxQ=>?_
    have hM8:=hM7.swap (h':=hset (hset σ7.h σ1.aj ⟨ones n (aJ (λi=>Xe.B.sl (bs i) 0 (n+1) (.ex (n+1))) k (.sl (bs (k+a)) 0 (n+1) (.ex (n+1)))),none⟩) σ1.aj ⟨ones n λi=>.sl (bs (swp k (k+a) i)) 0 (n+1) (.ex (n+1)),none⟩) hlt ha (ay _ _ _) λb h1 h2=>(ak _ _ _ _ jb).trans (ak _ _ _ _ jb)
    have hBs:=hB5.swap hlt (Nat.le_add_right k a) ha
    have eW:(λi=>jk S U (swp k (k+a) i))=jk (λi=>S (swp k (k+a) i)) (λi=>U (swp k (k+a) i)):=rfl
    rw[eW]at hBs
    have hIs:NK n (NI b k) (jk (λi=>S (swp k (k+a) i)) (λi=>U (swp k (k+a) i))):=λi j hi hj=>hI5 _ j (qF hlt ha hi) hj
    have esw:swp k (k+a) k=k+a:=by unfold swp;rw[ab rfl]
    have h0k:jk (λi=>S (swp k (k+a) i)) (λi=>U (swp k (k+a) i)) k k≠0:=by show((iv (S (swp k (k+a) k) k) (U (swp k (k+a) k) k):Int):Rat)≠0;rw[esw];exact λe=>hUa ((amn _).mp (eJ.mp (show((iv (S (k+a) k) (U (k+a) k):Int):Rat)=((0:Int):Rat)from e)))
    have hBn:=hBs.step hlt h0k
    have hZn:=(hBn.isZ jb).2
    have hIn:=hIs.step hlt (hBs.isZ jb).1 hBs.p0 hZn
    have hv0:v≠0:=λe=>hB5.p0 (by rw[e,(amn t).mpr rfl];rfl)
    refine(aaQ xQ.wf hM8 (by show σ4.aj<=σ7.aj;omega) hn2 jb hlt jb hv0 (λi j hi hj=>hIs.u hi hj) hv5 jb λi j hi hj=>hZn i j hi jb).mono ?_
    rintro _ σ9 ⟨⟨S',U',hM9,hval⟩,hK9⟩
    have aBT:σ7.aj<=σ9.aj:=hK9.le
    have NG:=hK9.get xQ.wf ((ak _ _ _ _ jb).trans ((ak _ _ _ _ jb).trans alR)) (.inr jp)
    have qk9:=hK9.get xQ.wf ((ak _ _ _ _ jb).trans ((ak _ _ _ _ jb).trans qk7)) (.inr jb)
    have q09:=hM9.o
    have qr9:=(hM9.r k hlt).1
    have aDJ:=hM9.r k hlt
    simp(disch:=try exact jz)only[go_sem,W3,au q09,q09,au qk9,qk9,au qr9,qr9,au NG,NG,aG NG]
    have ep:((iv (S' k k) (U' k k):Int):Rat)=jk (λi=>S (swp k (k+a) i)) (λi=>U (swp k (k+a) i)) k k:=(hval k k hlt jb).trans (ab rfl)
    have hI9:NK n (NI b (k+1)) (jk S' U'):=λi j hi hj=>by obtain⟨z,ez,hz1⟩:=hIn i j hi hj;exact⟨z,(hval i j hi jb).trans ez,hz1⟩
    have wu:=hf5.le
    have xE:=qc.fr (aU.to (hf5.trans nS) xQ λb hb=>by simp at hb;omega) hK9 jb
    refine⟨n-(k+1),jb,k+1,S',U',_,_,_,_,rfl,jb,rfl,rfl,hM9.keep λb hb=>ak _ _ _ _ jb,?_,hI9,hI9.u hlt jb,hS5.swap hlt ha,fr,jb⟩
    rw[ep]
    exact Bar.av3 hBn jb λi j hi hj=>(hval i j hi jb).symm
   .have:k=n:=jb
    subst this
    simp(disch:=try exact jz)only[go_sem,am]
    exact⟨S,U,bs,_,t7,t8,hM5,hI5,Bar.diag hB5,hB5.p0,λi hi=>hS5.1 (λl=>jk S U l k/jk S U l l) (hB5.done).2 i hi,hf5,jb⟩
  .rintro _ tm5 σ5 ⟨rfl,S,U,bs,p,t7,t8,hM5,hI5,hd5,hp5,hs5,hf5,hn5⟩
   have hlen5:lenV (.c (.sl σ1.aj 0 n (.ex n)))=some (jN n):=rfl
   have JQ:=Fr.refl hf5.wf
   have hb5:=hM5.b
   have hl5:=hM5.l
   refine WP ?_
   refine aF (λx tm σ6=>∃i,x=n-i/\i<=n/\r8 tm 7=jN n/\r8 tm 14=.c (.sl σ5.aj 0 n (.ex n))/\r8 tm 99=.c (.sl σ1.aj 0 n (.ex n))/\r8 tm 100=jN n/\r8 tm 101=jN i
    /\σ6.h σ5.aj=some ⟨cO n (λk=>if k<i then jk S U k n/jk S U k k else 0),none⟩/\Fr σ5 σ6/\σ5.aj+1<=σ6.aj) n ?_ ?_
   .refine⟨0,jb,jb,?_⟩
    refine W0 ?_
    exact⟨by rw[yV n λk=>jk S U k n/jk S U k k],fr,jp⟩
   .rintro x tm6 σ6 ⟨i,rfl,hi1,t7,t14,Gi,uy,aAl,TN,iD,hn6⟩
    have azy:=Fr.refl iD.wf
    have q0:=iD.get hf5.wf hM5.o
    simp(disch:=try exact jz)only[go_sem,W3,Gi,uy,aAl,aA]
    refine aH (λhlt=>?_) (λhlt=>?_)
    .have qi:=iD.get hf5.wf (hM5.r i hlt).1
     have hUi:0<U i i:=eo λe=>hp5 (by rw[<-hd5 i hlt];unfold jk;rw[(amn _).mpr e];rfl)
     have z1:=oH (hI5.u hlt (show n<n+1 by omega)) jb
     have z2:=oH (hI5.u hlt (show i<n+1 by omega)) jb
     have hfr:Ins.fr (false==(S i n==S i i)) (U i n) (U i i)=jk S U i n/jk S U i i:=aAe _ _ hUi
     have hst:=um n i (λk=>jk S U k n/jk S U k k)
     have aDK:=iD.wf.lt TN
     simp(disch:=try exact jz)only[go_sem,W3,Gi,uy,aAl,au q0,q0,au qi,qi,hfr,TN,aG TN,hst]
     exact⟨n-(i+1),jb,i+1,rfl,jb,rfl,rfl,fr,jb⟩
    .have:i=n:=jb
     subst this
     simp(disch:=try exact jz)only[go_sem,t14]
     refine⟨⟨σ5.aj,jk S U,p,rfl,?_,jb,jb,hI5,hd5,hp5,hs5⟩,hf5.trans iD⟩
     rw[TN,Aa]
def qE.hr{h:Tr Bk}{mb n lo hi:Nat}{A:Nat->Nat->Rat}{bs:Nat->Nat}(hM:qE h mb n (rC A) bs lo hi){p:Nat->Prop}(hp:∀b,b=mb\/lo<=b/\b<hi->p b):dQ p h (.sl mb 0 n (.ex n)) n (λ_=>n) A:=
 ⟨λi=>zD (λ_=>n) bs i,bD _ hM.o rfl (hp _ (.inl rfl)) (λ_=>rfl) jj (λ_ _=>rfl),λi hi=>hM.r.hlp (λb h1 h2=>hp b (.inr ⟨h1,h2⟩)) jj (λ_ _=>rfl) (λ_ _ _ _=>rfl) hi⟩
def VB{n:Nat}{l:List Nat}(hn:l.Nodup)(hl:∀i∈l,i<n):l.length<=n:=by have:=hn.length_le_of_subset (l₂:=List.range n) λi hi=>fu.mpr (hl i hi);grind
def afr{l:List Nat}(hn:l.Nodup)(v:Nat->Rat):SA l v l.length=rG l v:=by grind[ahH]
def qK:Nat:=120000
def G6:qK=120000:=rfl
def ar6{n:Nat}(h:n<=8){a:Nat}(ha:a<=440):NI a n<=qK:=by
 have hq:=G6;have h1:=BJ a h;have h2:∀c,NI a c+1=2^c*(a+1):=λc=>by
  induction c with
  |zero=>show a+1=1*(a+1);omega
  |succ c ih=>grind[NI]
 grind
def av9{J:St}(hW:WF J){sb xb:Nat}{g:fH}{x:Nat->Rat}(hs:Gn (Lt J.aj) J.h sb g)(h:jX g)(hx:J.h xb=some ⟨cO g.e.length x,none⟩){t:Rat}(hP:vG g x t){p p':Nat->Prop}{Dv Sv:B}(SX:dQ p J.h Dv g.e.length (kE g.e) (LH g x))(hSv:dQ p J.h Sv g.e.length (kE g.e) (ND g x))
  {mtv:B}(hM:dQ p' J.h mtv g.e.length (λ_=>g.e.length) (gM g.e.length (bI g) x)){iv:B}{l:List Nat}(hl:aaF J.h iv l) (hc:JW g.e.length (gM g.e.length (bI g) x) l){least:Bool}(hI:Fb h.NJ (jG g) least x t)
  (hre:least=true->∀E:Nat->Prop,(∃i,i<g.e.length/\E i/\i∈l)->(∀j,j<g.e.length->E j->jG g j=0)->(∀j i,j<g.e.length->i<g.e.length->E j->gM g.e.length (bI g) x j i≠0->E i)->False) (ht:least=true->t<1):
  aC EN 87 [.c (.ptr sb 0),.c (.sl xb 0 g.e.length (.ex g.e.length)),.agg [Dv,Sv],.c mtv,.c iv] J λr J'=>∃y,aam J J' r g.e.length y/\Fb h.NJ (jG g) least y t/\vG g y t/\meas g y t<meas g x t/\Fr J J':=by
 refine aN (nH.o _ _) nH.h ?_
 unfold nH
 dsimp only
 have hn8:=h.n
 have hll:=VB hc.nodup hc.lt
 have hne:=hc.ne
 have hx0:=hI.nn
 obtain⟨m1,m2,m3⟩:=h.mz hx0
 have k1:=SX.kn
 have k2:=hSv.kn
 have k3:=hM.kn
 have k4:=hl.kn
 have hle0:=hl.len
 have hFr:=Fr.refl hW
 have hZ:=h.aCb hx0 hc.lt
 have hqK:=G6
 have hex:=ar6 (n:=l.length) jb (a:=eB) jj
 simp(disch:=try exact jz)only[go_sem,k1,k2]
 refine aC.st (Fr J) (fr) λhF=>?_
 refine(ar1 hF.wf (hM.fr hW hF) m1 m2 (hl.fr hW hF) jb hc.lt).mono ?_
 rintro _ σ1 ⟨⟨mb,bs,rfl,hmb,hM1⟩,hf1⟩
 have hF1:=hF.trans hf1
 have aCd:=hM1.b
 have aCe:=hM1.l
 refine WN ?_
 refine(amI hf1.wf (hM1.hr (p:=Lt σ1.aj) λb hb=>by show b<σ1.aj;omega) hne jb hne jb hZ jb).mono ?_
 rintro _ σ2 ⟨⟨kb,rfl,hK⟩,hf2⟩
 have hF2:=hF1.trans hf2
 obtain⟨f0,hf0,hfP⟩:=amF hc
 generalize hEP:ech l.length (pU (gM g.e.length (bI g) x) l) l.length=EP at*
 obtain⟨F,P⟩:=EP
 have ar7:0<(iy (LZ P) l.length).length:=List.length_pos_of_mem ((BH (LZ P) f0 l.length).mpr ⟨hf0,by grind[LZ]⟩)
 have hfin:=jr ar7
 have aCf:=(BH (LZ P) _ l.length).mp hfin
 obtain⟨hfl,hfb⟩:=aCf
 have aDL:at0 (iy (LZ P) l.length) 0∉P:=λhin=>by grind[LZ]
 have aAm:=aqM (h.sub hx0) hc hfl kd
 have hFZ:=Vx hZ (c:=l.length) jp
 have hEl:=(LU l.length l.length (pU (gM g.e.length (bI g) x) l) l.length).len
 rw[hEP]at aAm hFZ hEl
 have hdz:Gs g.e.length qK (rG l (kvT l.length F P 0)):=by obtain⟨Q,q1,q2,q3⟩:=aCc (n:=g.e.length) (l:=l) hEl hfl hFZ rfl;exact⟨Q,q1,ar q2 (Ad hex),λi hi=>by obtain⟨z,ez,hz⟩:=q3 i hi;exact⟨z,ez,ar hz (Ad hex)⟩⟩
 obtain⟨hdm,hdp⟩:=aAm
 have hdm:∀j,j<g.e.length->rG l (kvT l.length F P 0) j=mv g.e.length (gM g.e.length (bI g) x) (rG l (kvT l.length F P 0)) j:=hdm
 have hdp:∀i∈l,0<rG l (kvT l.length F P 0) i:=hdp
 have hdn:Nn g.e.length (rG l (kvT l.length F P 0)):=λi _=>by grind[vT]
 obtain⟨b0,o0,c0,T0,e0,-,vg,hT0⟩:=hK.at ar7
 have vg:ld σ2.h b0 (o0+0*1) 1 false=some (.c T0):=vg
 have hT0:kX (Lt σ2.aj) σ2.h T0 l.length (kvT l.length F P 0):=hT0
 dsimp only at e0
 simp(disch:=try exact jz)only[go_sem,e0,vg]
 refine(aaG hf2.wf (hl.fr hW hF2) hT0 jb jb hc.lt).mono ?_
 rintro _ σ3 ⟨⟨db,rfl,hdb,hd1,hd2⟩,hf3⟩
 rw[afr hc.nodup]at hdb
 have hF3:=hF2.trans hf3
 have hx3:=hF3.get hW hx
 have q7:σ3.h J.aj=some ⟨[Dv,Sv],none⟩:=(hf1.trans (hf2.trans hf3)).get hF.wf (ay _ _ _)
 obtain⟨D,hNr⟩:=hP.nr h hdn hdz (ia G6)
 generalize hdd:rG l (kvT l.length F P 0)=d at*
 have hdr:kX (λ_=>True) σ3.h (.sl db 0 g.e.length (.ex g.e.length)) g.e.length d:=bD (G:=λc=>dP (d c)) _ hdb rfl trivial (λ_=>rfl) jj λ_ _=>rfl
 have hxr:kX (λ_=>True) σ3.h (.sl xb 0 g.e.length (.ex g.e.length)) g.e.length x:=bD (G:=λc=>dP (x c)) _ hx3 rfl trivial (λ_=>rfl) jj λ_ _=>rfl
 simp(disch:=try exact jz)only[go_sem,au q7,k1,k2]
 refine(Vt hf3.wf (hs.fr hF3) hxr hdr ((SX.fr hW hF3).keep (λ_ _=>rfl) λ_ _=>trivial) ((hSv.fr hW hF3).keep (λ_ _=>rfl) λ_ _=>trivial) hNr).mono ?_
 rintro _ σ4 ⟨rfl,hf4⟩
 have hD3:∀i,i<g.e.length->H9 ((bI g).e i) ((bI g).k i) (x i) (oh g x i):=λi hi=>(amC h hi (hx0 i hi)).2
 have hcn:=ahG h.NJ hD3 hc hdp
 rcases XJ (kY g.e.length (bI g) (oh g x) x d)with⟨e,-⟩|⟨v,ev,hvm,hvl⟩
 .grind
 .rw[ev]
  have hz0:∀i,i∉l->d i=0:=λi hi=>by rw[<-hdd];exact vT hi
  obtain⟨hI',hmu⟩:=al8 h.NJ (jG g) (λj hj=>(h.m j hj).2.2.1) hI hD3 hdp hz0 hdm hre ht hvm hvl
  have hms:meas g (bF x d v) t<meas g x t:=by unfold meas;omega
  have hP':=(hP.alZ h hdn hdz (ia G6) hvm (.inl rfl) hI' hms).1
  obtain⟨s1,s2⟩:=hP.aAh h hdn hdz (ia G6) hI.t0 hI.t1 (.inl hvm)
  have s3:=(hP.sz hI.t0 hI.t1).1
  have s4:=(hP'.sz hI.t0 hI.t1).1
  have gB:=hF3.trans hf4
  have EC:=Fr.refl hf4.wf
  refine WN ?_
  refine aC.st (Fr σ4) (fr) λdY=>?_
  have hx5:=(gB.trans dY).get hW hx
  have hd5:=(hf4.trans dY).get hf3.wf hdb
  have hdr:kX (λ_=>True) _ (.sl db 0 g.e.length (.ex g.e.length)) g.e.length d:=bD (G:=λc=>dP (d c)) _ hd5 rfl trivial (λ_=>rfl) jj λ_ _=>rfl
  have hxr:kX (λ_=>True) _ (.sl xb 0 g.e.length (.ex g.e.length)) g.e.length x:=bD (G:=λc=>dP (x c)) _ hx5 rfl trivial (λ_=>rfl) jj λ_ _=>rfl
  refine(OE dY.wf hxr hdr jb s1 s3 (λi hi=>(s2 i hi).1) (λi hi=>(s2 i hi).2) s4).mono ?_
  rintro _ σ6 ⟨⟨rb,rfl,hr1,hr2,hr3⟩,iD⟩
  have pK:=gB.le
  have hr2:σ4.aj+1<=rb:=hr2
  refine WN ?_
  exact⟨_,⟨rb,rfl,hr1,jb,hr3⟩,hI',hP',hms,(gB.trans dY).trans iD⟩
def awc{g:fH}(h:jX g){x:Nat->Rat}(hx:∀i,i<g.e.length->0<=x i){l:List Nat}(hl:∀i∈l,i<g.e.length):∃Q b:Nat,0<Q/\Q<=2^b/\b<=440/\∀i k,i<l.length->k<l.length+1->∃z:Int,pV l.length (pU (gM g.e.length (bI g) x) l) (λa=>-jG g (at0 l a)) i k=(z:Rat)/(Q:Rat)/\z.natAbs<=2^b:=by
 have heB:=aaT;obtain⟨p1,p2⟩:=h.gE hx;have hp:=bX (show 0<60 by decide) p1;have hle:60*Xe.gE g x<=2^(6+eB):=qG jj p2;refine⟨60*Xe.gE g x,6+eB+7,hp,ar hle (Ad jb),jb,λi k hi hk=>?_⟩;have e60:((100:Nat):Rat)=100:=rfl;have key:eG (60*Xe.gE g x) (pV l.length (pU (gM g.e.length (bI g) x) l) (λa=>-jG g (at0 l a)) i k)/\-100<=pV l.length (pU (gM g.e.length (bI g) x) l) (λa=>-jG g (at0 l a)) i k/\pV l.length (pU (gM g.e.length (bI g) x) l) (λa=>-jG g (at0 l a)) i k<=100:=by
  unfold pV;split
  .next hk'=>
   have h1:=hl _ (jr hi);have h2:=hl _ (jr hk');have h3:=h.m01 hx h1 h2;have h4:=h.mD hx (j:=at0 l i) h2;have hone:eG (Xe.gE g x) (1:Rat):=⟨Xe.gE g x,by have:=iJ p1;have e:(((Xe.gE g x:Nat):Int):Rat)=((Xe.gE g x:Nat):Rat):=rfl;grind⟩
   unfold pU xq;refine⟨(h4.sub ?_).dvd (gk _ _) hp,?_,?_⟩
   .grind[eG.zero]
   .grind
   grind
  .have h1:=(h.m _ (hl _ (jr hi))).2;show eG _ (-(ix g.e (at0 l i)).m.q)/\-100<=-(ix g.e (at0 l i)).m.q/\-(ix g.e (at0 l i)).m.q<=100;exact⟨(h1.1.dvd (aL _ _) hp).neg,by grind,by grind⟩
 obtain⟨z,ez,hz⟩:=XP (K:=100) hp hle key.1 kd kd;grind
def awd{J:St}(hW:WF J){sb:Nat}{g:fH}{x:Nat->Rat}(hs:Gn (Lt J.aj) J.h sb g)(h:jX g)(hx0:Nn g.e.length x){p':Nat->Prop}{mtv:B}(hM:dQ p' J.h mtv g.e.length (λ_=>g.e.length) (gM g.e.length (bI g) x)){iv:B}{l:List Nat}(hl:aaF J.h iv l)(hnd:l.Nodup)(hln:∀i∈l,i<g.e.length)
  (hcl:XH g.e.length (gM g.e.length (bI g) x) l) (hno:∀S:Nat->Prop,(∃i,i<g.e.length/\S i)->(∀i,i<g.e.length->S i->i∈l)->¬Ins.Shut g.e.length (gM g.e.length (bI g) x) S) (hc0:∀j,j<g.e.length->j∉l->jG g j=0):
  aC EN 88 [.c (.ptr sb 0),.c mtv,.c iv] J λr J'=>∃v,aam J J' r g.e.length v/\Nn g.e.length v/\(∀j,j<g.e.length->v j=mv g.e.length (gM g.e.length (bI g) x) v j+jG g j)/\(∀j,j∉l->v j=0)/\Gs g.e.length qK v/\Fr J J':=by
 refine aN (nI.o _ _) nI.h ?_
 unfold nI
 dsimp only
 have hn8:=h.n
 have hll:=VB hnd hln
 obtain⟨m1,m2,m3⟩:=h.mz hx0
 have k3:=hM.kn
 have k4:=hl.kn
 have hle0:=hl.len
 have hlM:=hM.len
 have hFr:=Fr.refl hW
 have hng:=λ(args:List V) (J:St) (K:V->St->Prop)=>lW (E:=EN) (K:=K) (fA.o args J) fA.h
 unfold fA at hng
 dsimp only at hng
 by_cases hl0:l.length=0
 .have e0:l=[]:=gm.mp hl0
  subst e0
  have hle0:lenV (.c iv)=some (jN 0):=hle0
  simp(disch:=try exact jz)only[go_sem,hle0,gd,hlM]
  refine⟨λ_=>0,⟨J.aj,rfl,ay _ _ _,jp,bB _⟩,λ_ _=>aR,λj hj=>?_,λ_ _=>rfl,⟨1,jj,gH,λi _=>⟨0,show(0:Rat)=((0:Int):Rat)/((1:Nat):Rat) by decide+kernel,aM _⟩⟩,fr⟩
  grind[mv,bK]
 .have e1:decide (l.length=0)=false:=af hl0
  have hs':=hs
  obtain⟨⟨ev,gv,lv,bv,hsb,hg,⟨R,P,hL1,hL2⟩,hB⟩,hsl⟩:=hs
  have hsl:sb<J.aj:=hsl
  have hek:=hg.e.kn
  simp(disch:=try exact jz)only[go_sem,hle0,e1]
  refine bM.mono (Q:=λex tm σ4=>ex=.exit 0/\r8 tm 1=.c mtv/\r8 tm 2=.c iv/\r8 tm 7=.c (.sl J.aj 0 l.length (.ex l.length))/\σ4.h J.aj=some ⟨cO l.length (λa=>-jG g (at0 l a)),none⟩/\Fr J σ4/\J.aj+1<=σ4.aj)
   (aF (λq tm σ4=>∃k,q=l.length-k/\k<=l.length/\r8 tm 0=.c (.ptr sb 0)/\r8 tm 1=.c mtv/\r8 tm 2=.c iv/\r8 tm 7=.c (.sl J.aj 0 l.length (.ex l.length))/\r8 tm 21=.c iv/\r8 tm 22=jN l.length/\r8 tm 23=jN k
    /\σ4.h J.aj=some ⟨cO l.length (λa=>if a<k then-jG g (at0 l a)else 0),none⟩/\Fr J σ4/\J.aj+1<=σ4.aj) l.length ?_ ?_) ?_
  .refine⟨0,jb,jb,?_⟩
   refine WN ?_
   exact⟨by rfl,fr,jp⟩
  .rintro q tm σ4 ⟨k,rfl,hk,t0,t1,t2,t7,t21,t22,t23,q7,hf,hnx⟩
   have EC:=Fr.refl hf.wf
   refine W2 ?_
   refine aH (λhlt=>?_) (λhlt=>?_)
   .obtain⟨bi,oi,ci,ei,Uc⟩:=hl.one jb
    have Uc:=hf.ld hW (Uc k hlt)
    have ai:V.c (.sl bi oi l.length ci)=V.c iv:=by rw[ei]
    rw[ei]at t21
    have hin:=hln _ (jr hlt)
    have alQ:=hf.get hW hsb
    obtain⟨b5,o5,c5,rfl,C1,A1,bC,-,hC,hA1⟩:=hg.e.at hin
    have bC:=hf.ld hW bC
    have SY:=aZ.kn hC
    have hAk:=hA1.kn
    have hw:=qP (h.m _ hin).1
    have hst:=um l.length k (λa=>-jG g (at0 l a))
    have ld3:=FI bC 3 true jj jj
    have hl7:=hf.wf.lt q7
    have hrq:rq (ix g.e (at0 l k)).m.n (ix g.e (at0 l k)).m.s (ix g.e (at0 l k)).m.d=jG g (at0 l k):=rfl
    have hcp:=(h.m _ hin).2
    have hcs:jG g (at0 l k)=(ix g.e (at0 l k)).m.q:=rfl
    have zq:Sz (jG g (at0 l k)):=by rw[hcs];exact(Ig (b:=6) jj jj hcp.1 (by have:=hcp.2.1;grind) (by have:=hcp.2.2;grind)).sz jj
    simp(disch:=try exact jz)only[go_sem,W3,Uc,au alQ,ld3,hng,Y0,hrq,q7,aG q7,hek,hst]
    exact⟨l.length-(k+1),jb,k+1,rfl,jb,ai,rfl,rfl,fr,jb⟩
   .have:k=l.length:=jb
    subst this
    simp(disch:=try exact jz)only[go_sem,am]
    refine⟨t1,t2,t7,?_,hf,hnx⟩
    rw[q7,Aa]
  .rintro _ tm σ4 ⟨rfl,t1,t2,t7,q7,hf4,hn4⟩
   have pK:=hf4.le
   refine WP ?_
   refine(ar1 hf4.wf (hM.fr hW hf4) m1 m2 (hl.fr hW hf4) jb hln).mono ?_
   rintro _ σ5 ⟨⟨mb,bs,rfl,hmb,hM5⟩,hf5⟩
   have dY:=hf4.trans hf5
   have q75:=hf5.get hf4.wf q7
   have aCd:=hM5.b
   have aCe:=hM5.l
   obtain⟨Q,b,Q1,Q2,Q3,Q4⟩:=awc h hx0 hln
   have hex:=ar6 (n:=l.length) jb Q3
   have hqK:=G6
   have hinj:=ahX (h.sub hx0) hnd hln hcl hno (B:=pU (gM g.e.length (bI g) x) l) (s:=λ_=>1) (λ_ _=>jj) λi j _ _=>(il _).symm
   refine WP ?_
   refine(aqO hf5.wf (hM5.hr (p:=λ_=>True) λ_ _=>trivial) (bD (G:=λa=>dP (-jG g (at0 l a))) (p:=λ_=>True) _ q75 rfl trivial (λ_=>rfl) jj λ_ _=>rfl) jb jb Q1 Q2 Q4 jb hinj).mono ?_
   rintro _ σ6 ⟨⟨nb,W,p,rfl,hnb,g1,g2,hIZ,hdi,hp0,hso⟩,iD⟩
   have iR:=dY.trans iD
   simp(disch:=try exact jz)only[go_sem,t1,t2,hlM]
   refine(aaG (p:=λ_=>True) iD.wf (hl.fr hW iR) (bD (G:=λc=>dP (W c l.length/W c c)) _ hnb rfl trivial (λ_=>rfl) jj λ_ _=>rfl) jb jb hln).mono ?_
   rintro _ σ7 ⟨⟨rb,rfl,hr1,hr2,hr3⟩,wz⟩
   rw[afr hnd]at hr1
   have zC:=iR.le
   have hv:=amG (M:=gM g.e.length (bI g) x) (l:=l) (B:=pV l.length (pU (gM g.e.length (bI g) x) l) λa=>-jG g (at0 l a)) (s:=λ_=>1) (v:=λi=>W i l.length/W i i) (c:=jG g) (λ_ _=>jj) (λi j _ hj=>by unfold pV;rw[ab hj,il]) (λi _=>by unfold pV;rw[ae jb,il]) λi hi=>by have e:pV l.length (pU (gM g.e.length (bI g) x) l) (λa=>-jG g (at0 l a)) i l.length=-jG g (at0 l i):=ae jb;rw[e,<-hso i hi];exact aP λj hj=>by unfold pV;rw[ab hj]
   have hcn:∀j,j<g.e.length->0<=jG g j:=λj hj=>(h.m j hj).2.2.1
   have hvz:Gs g.e.length qK (rG l λi=>W i l.length/W i i):=by obtain⟨Q',q1,q2,q3⟩:=aAd (n:=g.e.length) (l:=l) hIZ hdi hp0 jb rfl hnd;exact⟨Q',q1,ar q2 (Ad hex),λi hi=>by obtain⟨z,ez,hz⟩:=q3 i hi;exact⟨z,ez,ar hz (Ad hex)⟩⟩
   refine WN ?_
   exact⟨_,⟨rb,rfl,hr1,jb,hr3⟩,aqm (h.sub hx0) hnd hln hcl hno hcn hc0 hv,JV hnd hln hcl hc0 hv,λj hj=>vT hj,hvz,iR.trans wz⟩
end Go.Proofs.Xe
