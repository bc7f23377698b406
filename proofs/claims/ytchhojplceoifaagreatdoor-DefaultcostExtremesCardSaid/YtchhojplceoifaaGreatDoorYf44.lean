import Derived.Test.YtchhojplceoifaaGreatDoorYf43
set_option linter.all false
set_option maxRecDepth 100000
set_option maxHeartbeats 8000000
namespace Go.Proofs.Xe
open Go.RowKit Go.Proofs.Ins
def oV(n:Nat)(A:Nat->Nat->Rat)(bv:Nat->Rat)(i k:Nat):Rat:=if k<n then A i k else bv i
def alD{n:Nat}{A:Nat->Nat->Rat}{bv:Nat->Rat}{i:Nat}:cZ (n+1) (aN (A i) n (bv i))=cZ (n+1) (oV n A bv i):=dS λk hk=>by grind[aN,oV]
def agU(m:Nat)(ws:Nat->Nat)(i k:Nat):B:=if k<i then .sl (ws k) 0 m (.ex m)else .aP
def alE{n m i b:Nat}{ws:Nat->Nat}:ones n (aN (agU m ws i) i (.sl b 0 m (.ex m)))=ones n (agU m (aN ws i b) (i+1)):=cO λk _=>by grind[aN,agU]
def H7(n:Nat)(A:Nat->Nat->Rat)(bv:Nat->Rat)(i k:Nat):Bool:=rn (oV n A bv i k)
def EC(n:Nat)(A:Nat->Nat->Rat)(bv:Nat->Rat)(cc:Nat->Nat)(i k:Nat):Nat:=(oV n A bv i k).num.natAbs*(cc i/(oV n A bv i k).den)
structure alF(n:Nat)(A:Nat->Nat->Rat)(bv:Nat->Rat)(Q:Nat)(h:Tr Bk)(ws cc:Nat->Nat)(i lo hi:Nat):Prop where
 r:∀k,k<i->h (ws k)=some ⟨QW (n+1) (H7 n A bv k) (EC n A bv cc k),none⟩/\lo<=ws k/\ws k<hi
 inj:∀k l,k<i->l<i->ws k=ws l->k=l
 c:∀k,k<i->0<cc k/\cc k∣Q/\∀j,j<n+1->(oV n A bv k j).den∣cc k
def alF.up{n:Nat}{A:Nat->Nat->Rat}{bv:Nat->Rat}{Q:Nat}{h h':Tr Bk}{ws cc:Nat->Nat}{i lo hi hi' nb c:Nat}(hR:alF n A bv Q h ws cc i lo hi)(hk:∀b,lo<=b->b<hi->h' b=h b)(hl:lo<=hi)(h1:h' nb=some ⟨QW (n+1) (λk=>rn (oV n A bv i k)) (λk=>(oV n A bv i k).num.natAbs*(c/(oV n A bv i k).den)),none⟩)(h2:hi<=nb)(h3:nb<hi')(hc:0<c)(hcQ:c∣Q)(hcd:∀j,j<n+1->(oV n A bv i j).den∣c):alF n A bv Q h' (aN ws i nb) (aN cc i c) (i+1) lo hi':=by
 refine⟨λk hk1=>?_,λk l hk1 hl1 e=>?_,λk hk1=>?_⟩
 .by_cases e:k=i
  .subst e;rw[aK];refine⟨?_,jb,h3⟩;rw[h1];congr 2;refine BD λj _=>⟨rfl,?_⟩
   unfold EC;rw[aK]
  .obtain⟨k1,k2,k3⟩:=hR.r k jb;grind[Go.Proofs.Xe.aS,Go.Proofs.Xe.BD,Go.Proofs.Xe.EC]
 .by_cases e1:k=i<;>by_cases e2:l=i
  .omega
  .exfalso;rw[e1,aK,aS _ _ _ _ e2]at e;have:=(hR.r l jb).2.2;omega
  .exfalso;rw[e2,aK,aS _ _ _ _ e1]at e;have:=(hR.r k jb).2.2;omega
  .rw[aS _ _ _ _ e1,aS _ _ _ _ e2]at e;exact hR.inj k l jb jb e
 .by_cases e:k=i
  .grind[aK]
  .rw[aS _ _ _ _ e];exact hR.c k jb
def ZP(n:Nat)(A:Nat->Nat->Rat)(bv:Nat->Rat)(B:Nat->Nat->Rat):Prop:=
 (∀z:Nat->Rat,(∀i,i<n->aB n (λl=>B i l*z l)=B i n)->∀i,i<n->aB n (λl=>A i l*z l)=bv i)/\∀z:Nat->Rat,(∀i,i<n->aB n (λj=>B i j*z j)=0)->∀j,j<n->z j=0
def ZP.swap{n:Nat}{A B:Nat->Nat->Rat}{bv:Nat->Rat}(h:ZP n A bv B){r p:Nat}(hr:r<n)(hp:p<n):ZP n A bv λi=>B (swp r p i):=by
 refine⟨λz hz=>h.1 z λi hi=>?_,λz hz=>h.2 z λi hi=>?_⟩
 .have:=hz _ (qh hr hp hi);grind[Nz]
 .have:=hz _ (qh hr hp hi);grind[Nz]
def ZP.start{n:Nat}{A B:Nat->Nat->Rat}{bv:Nat->Rat}{c:Nat->Rat}(hc:∀i,i<n->c i≠0)(hB:∀i k,i<n->k<n+1->B i k=c i*oV n A bv i k)(hinj:∀z:Nat->Rat,(∀i,i<n->aB n (λj=>A i j*z j)=0)->∀j,j<n->z j=0):ZP n A bv B:=by
 have e:∀(z:Nat->Rat) i,i<n->aB n (λl=>B i l*z l)=c i*aB n λl=>A i l*z l:=λz i hi=>by rw[<-gQ];grind[Go.Proofs.Ins.aQ,Go.Proofs.Xe.oV]
 have cz:∀i,i<n->∀y:Rat,c i*y=0->y=0:=λi hi y h=>by grind
 refine⟨λz hz i hi=>?_,λz hz=>hinj z λi hi=>?_⟩
 .have h1:=hz i hi;rw[e z i hi,hB i n hi jb]at h1;grind[oV]
 .have h1:=hz i hi;rw[e z i hi]at h1;grind
def L8.u{n a:Nat}{S:Nat->Nat->Bool}{U:Nat->Nat->Nat}(h:L8 n a (jc S U)){i j:Nat}(hi:i<n)(hj:j<n+1):U i j<=2^a:=by obtain⟨z,ez,hz⟩:=h i j hi jb;unfold jc at ez;have:=bO Int.natAbs (eZ.mp ez);grind[Ap]
def alG(r p i:Nat):swp r p i=swp p r i:=by grind[swp]
def auN{b n k:Nat}(h:k<n):Ve 1 (.c (.sl b 0 n (.ex n))) (some (jN k)) none none=some (.c (.sl b (k*1) (n-k) (.ex (n-k)))):=by grind[Ve,Vd,KQ,yj,IJ]
def apz{σ:St}(hW:WF σ){p p':Nat->Prop}{v w:B}{n:Nat}{A:Nat->Nat->Rat}{bv:Nat->Rat}(hA:dQ p σ.h v n (λ_=>n) A)(hb:kJ p' σ.h w n bv)(hn:0<n)(hn2:n<=16){Q b:Nat}(hQ:0<Q)(hQb:Q<=2^b)(hz:∀i k,i<n->k<n+1->∃z:Int,oV n A bv i k=(z:Rat)/(Q:Rat)/\z.natAbs<=2^b)(hb2:L6 b n<=20000000)
  (hinj:∀z:Nat->Rat,(∀i,i<n->aB n (λj=>A i j*z j)=0)->∀j,j<n->z j=0):
  aC EN 155 [.c v,.c w] σ λr σ'=>(∃nb W p,r=.aZ (.c (.sl nb 0 n (.ex n))) (.aZ (jN 0) .tnil)/\σ'.h nb=some ⟨cZ n (λi=>W i n/W i i),none⟩/\σ.aj<=nb/\nb<σ'.aj/\L8 n (L6 b n) W/\(∀i,i<n->W i i=p)/\p≠0/\∀i,i<n->aB n (λl=>A i l*(W l n/W l l))=bv i)/\Fr σ σ':=by
 refine aO (yC.o _ _) yC.h ?_
 unfold yC
 dsimp only
 have hlen:=hA.len
 have hlw:=aX.len hb
 obtain⟨b6,o6,c6,T,rfl,-,bJ,hT⟩:=hA.at hn
 have wO:ld σ.h b6 (o6+0*1) 1 false=some (.c T):=bJ
 have hlT:=aX.len hT
 have hxa:=alg b n
 have hzs:∀i k,i<n->k<n->Sz (A i k):=λi k hi hk=>by obtain⟨z,ez,hz1⟩:=hz i k hi jb;have e:oV n A bv i k=A i k:=ae hk;rw[e]at ez;exact(show mO b (A i k)from⟨z,Q,hQ,hQb,hz1,ez⟩).sz jb
 have hzg:∀i k,i<n->k<n+1->Sz (oV n A bv i k):=λi k hi hk=>by obtain⟨z,ez,hz1⟩:=hz i k hi hk;exact(show mO b (oV n A bv i k)from⟨z,Q,hQ,hQb,hz1,ez⟩).sz jb
 have hsq:=λ(args:List V) (σ:St) (K:V->St->Prop)=>lS (E:=EN) (K:=K) (wL.o args σ) wL.h
 unfold wL at hsq
 dsimp only at hsq
 simp(disch:=try exact jz) only[go_sem,hsq]
 refine(ZG hW hA hn hn2 hn hn2).mono ?_
 rintro _ σ1 ⟨rfl,hf1⟩
 have wO:=hf1.ld hW wO
 have abL:=Fr.refl hf1.wf
 simp(disch:=try exact jz) only[go_sem,ofNat_eq,hlen,hlT,wO,hlw,gn]
 refine aC.st (Fr σ1) (fr) λhF=>?_
 have hF1:=hf1.trans hF
 refine(QD hF.wf (hA.fr hW hF1) hn2 hn jb hzs).mono ?_
 rintro _ σ2 ⟨⟨mb,bs,rfl,hmb,hM⟩,hf2⟩
 have hw0:σ2.h σ1.aj=some ⟨ones n λ_=>.aP,none⟩:=hf2.get hF.wf (aA _ _ _)
 have hmb:σ1.aj+1<=mb:=hmb
 have hF2:=hF1.trans hf2
 have hb0:=hM.b
 have hl0:=hM.l
 simp(disch:=try exact jz) only[go_sem,am]
 refine bM.mono (Q:=λex tm σ4=>ex=.exit 0/\∃ws cc,Tr.ah tm 7=jN n/\Tr.ah tm 8=.c (.sl σ1.aj 0 n (.ex n))/\σ4.h σ1.aj=some ⟨ones n (agU (n+1) ws n),none⟩/\alF n A bv Q σ4.h ws cc n σ2.aj σ4.aj/\Fr σ σ4/\σ2.aj<=σ4.aj)
  (aF (λx tm σ4=>∃i ws cc,x=n-i/\i<=n/\Tr.ah tm 1=.c w/\Tr.ah tm 7=jN n/\Tr.ah tm 8=.c (.sl σ1.aj 0 n (.ex n))/\Tr.ah tm 31=.c (.sl mb 0 n (.ex n))/\Tr.ah tm 32=jN n/\Tr.ah tm 33=jN i
   /\σ4.h σ1.aj=some ⟨ones n (agU (n+1) ws i),none⟩/\alF n A bv Q σ4.h ws cc i σ2.aj σ4.aj/\σ4.h mb=some ⟨ones n λi=>.sl (bs i) 0 n .opn,none⟩/\(∀k,i<=k->k<n->σ4.h (bs k)=some ⟨cZ n (A k),some (3,50)⟩)/\Fr σ σ4/\σ2.aj<=σ4.aj) n ?_ ?_) ?_
 .refine⟨0,λ_=>0,λ_=>0,jb,jb,?_⟩
  simp(disch:=try exact jz) only[go_sem,am]
  exact⟨hw0.trans (bO (λl=>some (Bk.mk l none)) (cO λk _=>by unfold agU;rw[ab jb])),⟨λk h=>absurd h jb,λk l h=>absurd h jb,λk h=>absurd h jb⟩,hM.o,λk _ hk=>(hM.r k hk).1,hF2,jp⟩
 .rintro x tm σ4 ⟨i,ws,cc,rfl,hi1,t1,t7,t8,t31,t32,t33,q8,hR,qm,hrest,hf4,hn4⟩
  simp(disch:=try exact jz) only[go_sem,t1,t7,t8,t31,t32,t33,aG]
  refine aH (λhlt=>?_) (λhlt=>?_)
  .have qr:=hrest i jp hlt
   obtain⟨-,g1,g2⟩:=hM.r i hlt
   obtain⟨b7,o7,c7,e7,-,dB⟩:=aX.at3 hb hlt
   have ax4:=hW.dA dB
   have hle1:=hf1.le
   have dB:=hf4.ld hW dB
   have a7:V.c (.sl b7 o7 n c7)=V.c w:=by rw[e7]
   rw[e7]at t1
   have hl8:=hf4.wf.lt q8
   have hlr:=hf4.wf.lt qr
   have hFe:=aU.refl (ex:=[bs i]) hf4.wf
   have h5:=aiE n (A i)
   have hag:=alD (n:=n) (A:=A) (bv:=bv) (i:=i)
   simp(disch:=try exact jz) only[go_sem,t1,t7,t8,t31,t32,t33,au qm,qm,au qr,qr,dB,hag]
   refine aC.st (aU [bs i] σ4) (by repeat(first|assumption|exact aU.refl (by assumption)|exact aU.up (by assumption) kf|exact aU.up (aU.refl (by assumption)) kf|refine aU.set1 ?_ kg kf|refine aU.lW ?_ kg|refine aU.oG ?_ kg|refine aU.pK ?_ kf)) λgy=>?_
   have qr5:(hset (hset (hdel (hset σ4.h σ4.aj ⟨[.bool (rn (bv i)),.str (rs (bv i)),.str (rd (bv i))],none⟩) (bs i)) (σ4.aj+1) ⟨cZ (n+1) (oV n A bv i),some (3,50)⟩) (σ4.aj+1+1) ⟨[.sl (σ4.aj+1) 0 (n+1) .opn],none⟩) (σ4.aj+1)=some ⟨cZ (n+1) (oV n A bv i),some (3,50)⟩:=(ak _ _ _ _ jb).trans (aA _ _ _)
   have HR5:dQ (λ_=>True) (hset (hset (hdel (hset σ4.h σ4.aj ⟨[.bool (rn (bv i)),.str (rs (bv i)),.str (rd (bv i))],none⟩) (bs i)) (σ4.aj+1) ⟨cZ (n+1) (oV n A bv i),some (3,50)⟩) (σ4.aj+1+1) ⟨[.sl (σ4.aj+1) 0 (n+1) .opn],none⟩) (.sl (σ4.aj+1+1) 0 1 (.ex 1)) 1 (λ_=>n+1) λ_=>oV n A bv i:=
    ⟨λ_=>.sl (σ4.aj+1) 0 (n+1) .opn,bD (n:=1) (G:=λ_=>[.sl (σ4.aj+1) 0 (n+1) .opn]) _ (aA _ _ _) rfl trivial (λ_=>rfl) jj (λ_ _=>rfl),λj _=>bD (G:=λc=>dO (oV n A bv i c)) _ qr5 (CQ _ _ jj) trivial (λ_=>rfl) jj λ_ _=>rfl⟩
   refine(QD gy.wf HR5 jj jb jb λ_ k _ hk=>hzg i k hlt hk).mono ?_
   rintro _ σ6 ⟨⟨m2,b2,rfl,hm2,hM2⟩,gV⟩
   have qm2:=hM2.o
   have qr2:=(hM2.r 0 jj).1
   have yZ:σ4.aj+1+1+1<=σ6.aj:=gV.le
   simp(disch:=try exact jz) only[go_sem,t1,t7,t8,t31,t32,t33,au qm2,qm2]
   refine(acf (p:=λ_=>True) gV.wf (bD (G:=λc=>dO (oV n A bv i c)) _ qr2 (CQ _ _ jj) trivial (λ_=>rfl) jj λ_ _=>rfl) jb hQ hQb jb λk hk=>hz i k hlt hk).mono ?_
   rintro _ σ7 ⟨⟨nb,c,rfl,hnb,g3,g4,hc,hcQ,hcd⟩,pz⟩
   have auO:=gV.trans pz
   have um:aU [bs i] σ4 σ7:=gy.to' (ex:=[]) ⟨auO.le,auO.wf,λb hb _=>auO.old b hb⟩ kc
   have aoM:=um.le
   have q87:=um.get hf4.wf (by simp;omega) q8
   have qm7:=um.get hf4.wf (by simp;omega) qm
   have hst:=alE (n:=n) (m:=n+1) (i:=i) (b:=nb) (ws:=ws)
   simp(disch:=try exact jz) only[go_sem,t1,t7,t8,t31,t32,t33,q87,aI q87,hst]
   refine⟨n-(i+1),jb,i+1,aN ws i nb,aN cc i c,rfl,jb,a7,rfl,rfl,hR.up (λb h1 h2=>(ak _ _ _ _ jb).trans (um.old b h2 (by simp;omega))) hn4 ((ak _ _ _ _ jb).trans hnb) jb g4 hc hcQ hcd,qm7,λk h1 h2=>?_,?_,jb⟩
   .obtain⟨-,k1,k2⟩:=hM.r k h2
    have hne:bs k≠bs i:=λe=>by have:=hM.inj k i h2 hlt e;omega
    exact(ak _ _ _ _ jb).trans (um.get hf4.wf (by simpa using hne) (hrest k jb h2))
   .have Na:=aU.to hf4 um (λb hb=>by simp at hb;omega)
    exact fr
  .have:i=n:=jb
   subst this
   simp(disch:=try exact jz) only[go_sem,am]
   exact⟨ws,cc,t7,t8,q8,hR,hf4,hn4⟩
 .rintro _ tm4 σ4 ⟨rfl,ws,cc,t7,t8,q8,hR,hf4,hn4⟩
  have pY:=hf4.le
  have hle1:=hf1.le
  have hM4:Aq σ4.h σ1.aj n (n+1) (H7 n A bv) (EC n A bv cc) ws σ2.aj σ4.aj:=⟨by rw[q8];exact bO (λl=>some (Bk.mk l none)) (cO λk hk=>ae hk),hR.r,hR.inj,jb,hn4⟩
  have hval:∀i k,i<n->k<n+1->jc (H7 n A bv) (EC n A bv cc) i k=(cc i:Rat)*oV n A bv i k:=λi k hi hk=>auH _ ((hR.c i hi).2.2 k hk)
  have hI4:L8 n b (jc (H7 n A bv) (EC n A bv cc)):=λi k hi hk=>by
   obtain⟨z,ez,hz1⟩:=hz i k hi jb;obtain⟨c1,c2,c3⟩:=hR.c i hi;refine⟨iv (H7 n A bv i k) (EC n A bv cc i k),rfl,?_⟩;have h1:=hval i k hi jb;obtain⟨d,hd⟩:=c2;have hc0:=iI c1;have hd0:0<d:=fg λe=>by rw[e]at hd;omega
   have hdr:=iI hd0;have h2:((iv (H7 n A bv i k) (EC n A bv cc i k)*(d:Int):Int):Rat)=((z:Int):Rat):=by
    rw[dc];have e1:((iv (H7 n A bv i k) (EC n A bv cc i k):Int):Rat)=jc (H7 n A bv) (EC n A bv cc) i k:=rfl;have e2:((d:Int):Rat)=(d:Rat):=rfl;have e3:(Q:Rat)=(cc i:Rat)*(d:Rat):=by rw[hd,eV]
    rw[e1,e2,h1,ez,e3];grind
   have h3:=bO Int.natAbs (eZ.mp h2);rw[fh,ia]at h3;have h4:(iv (H7 n A bv i k) (EC n A bv cc i k)).natAbs<=(iv (H7 n A bv i k) (EC n A bv cc i k)).natAbs*d:=fW _ hd0;omega
  have hS4:ZP n A bv (jc (H7 n A bv) (EC n A bv cc)):=ZP.start (c:=λi=>(cc i:Rat)) (λi hi=>iI (hR.c i hi).1) hval hinj
  have hB4:Bar n 0 (jc (H7 n A bv) (EC n A bv cc)) (jc (H7 n A bv) (EC n A bv cc)) ((iv false 1:Int):Rat):=agM λi j _ _=>⟨_,rfl⟩
  clear hR hval
  have FQ:=Fr.refl hf4.wf
  have aBH:=aU.refl (ex:=[]) hf4.wf
  simp(disch:=try exact jz) only[go_sem,t7,t8]
  refine bM.mono (Q:=λex tm σ5=>ex=.exit 2/\∃S U bs p,Tr.ah tm 7=jN n/\Tr.ah tm 8=.c (.sl σ1.aj 0 n (.ex n))/\Aq σ5.h σ1.aj n (n+1) S U bs σ2.aj σ4.aj/\L8 n (L6 b n) (jc S U)/\(∀i,i<n->jc S U i i=p)/\p≠0/\(∀i,i<n->aB n (λl=>A i l*(jc S U l n/jc S U l l))=bv i)/\Fr σ σ5/\σ4.aj<=σ5.aj)
   (aF (λx tm σ5=>∃k S U bs t v B,x=n-k/\k<=n/\Tr.ah tm 7=jN n/\Tr.ah tm 8=.c (.sl σ1.aj 0 n (.ex n))/\Tr.ah tm 11=.c (.ptr σ4.aj 0)/\Tr.ah tm 56=jN n/\Tr.ah tm 57=jN k
    /\σ5.h σ4.aj=some ⟨[.bool t,.str (bn v)],none⟩/\Aq σ5.h σ1.aj n (n+1) S U bs σ2.aj σ4.aj/\Bar n k B (jc S U) ((iv t v:Int):Rat)/\L8 n (L6 b k) (jc S U)/\v<=2^L6 b k/\ZP n A bv B/\Fr σ σ5/\σ4.aj+1<=σ5.aj) n ?_ ?_) ?_
  .refine⟨0,H7 n A bv,EC n A bv cc,ws,false,1,jc (H7 n A bv) (EC n A bv cc),jb,jb,?_⟩
   simp(disch:=try exact jz) only[go_sem,am,t7,t8]
   exact⟨hM4.keep λb hb=>by rw[ak _ _ _ _ jb,ak _ _ _ _ jb],hB4,hI4,hJ,hS4,fr,jp⟩
  .rintro x tm5 σ5 ⟨k,S,U,bs,t,v,B,rfl,hk,t7,t8,t11,t56,t57,q11,Zn,hB5,hI5,hv5,hS5,hf5,hn5⟩
   simp(disch:=try exact jz) only[go_sem,t7,t8,t11,t56,t57,aG]
   refine aH (λhlt=>?_) (λhlt=>?_)
   .have Hl:=Fr.refl hf5.wf
    have hsl:=auN (b:=σ1.aj) hlt
    have hxk:=BA b (show k+1<=n by omega)
    have aBI:L6 b (k+1)=2*L6 b k+1:=rfl
    simp(disch:=try exact jz) only[go_sem,t7,t8,t11,t56,t57,hsl]
    refine aC.st (Fr σ5) (fr) λkL=>?_
    have hb5:=Zn.b
    have hl5:=Zn.l
    obtain⟨i0,j1,j2,j3⟩:=hB5.pivot hlt hS5.2
    refine(auK kL.wf (Zn.keep λb hb=>kL.old b jb) hn2 jb hlt jb (aA _ _ _) ⟨i0,j1,j2,λe=>j3 (by unfold jc;rw[(alh _).mpr e];rfl)⟩).mono ?_
    rintro _ σ7 ⟨⟨a,rfl,ha,hUa⟩,pz⟩
    have um:=kL.trans pz
    have aoM:=um.le
    have aAS:σ5.aj+1<=σ7.aj:=pz.le
    have hM7:Aq σ7.h σ1.aj n (n+1) S U bs σ2.aj σ4.aj:=Zn.keep λb hb=>um.old b jb
    have akL:=um.get hf5.wf q11
    have qk7:σ7.h σ5.aj=some ⟨[.int .i64 (.ofNat k)],none⟩:=pz.get kL.wf (aA _ _ _)
    have q0:=hM7.o
    have hst:=aeb (n:=n) (r:=k+a) (p:=k) (f:=λi=>.sl (bs i) 0 (n+1) (.ex (n+1)))
    simp only[alG (k+a) k]at hst
    have aBJ:=aU.refl (ex:=[σ1.aj]) pz.wf
    simp(disch:=try exact jz) only[go_sem,t7,t8,t11,t56,t57,agO,au q0,q0,aI q0,au qk7,qk7,au akL,akL,hst]
    refine aC.st (aU [σ1.aj] σ7) (by repeat(first|assumption|exact aU.refl (by assumption)|exact aU.up (by assumption) kf|exact aU.up (aU.refl (by assumption)) kf|refine aU.set1 ?_ kg kf|refine aU.lW ?_ kg|refine aU.oG ?_ kg|refine aU.pK ?_ kf)) λNa=>?_
    have hM8:=hM7.swap (h':=hset (hset σ7.h σ1.aj ⟨ones n (aN (λi=>Xe.B.sl (bs i) 0 (n+1) (.ex (n+1))) k (.sl (bs (k+a)) 0 (n+1) (.ex (n+1)))),none⟩) σ1.aj ⟨ones n λi=>.sl (bs (swp k (k+a) i)) 0 (n+1) (.ex (n+1)),none⟩) hlt ha (aA _ _ _) λb h1 h2=>(ak _ _ _ _ jb).trans (ak _ _ _ _ jb)
    have hBs:=hB5.swap hlt (Nat.le_add_right k a) ha
    have eW:(λi=>jc S U (swp k (k+a) i))=jc (λi=>S (swp k (k+a) i)) (λi=>U (swp k (k+a) i)):=rfl
    rw[eW]at hBs
    have hIs:L8 n (L6 b k) (jc (λi=>S (swp k (k+a) i)) (λi=>U (swp k (k+a) i))):=λi j hi hj=>hI5 _ j (qh hlt ha hi) hj
    have esw:swp k (k+a) k=k+a:=by unfold swp;rw[ae rfl]
    have h0k:jc (λi=>S (swp k (k+a) i)) (λi=>U (swp k (k+a) i)) k k≠0:=by show((iv (S (swp k (k+a) k) k) (U (swp k (k+a) k) k):Int):Rat)≠0;rw[esw];exact λe=>hUa ((alh _).mp (eZ.mp (show((iv (S (k+a) k) (U (k+a) k):Int):Rat)=((0:Int):Rat)from e)))
    have hBn:=hBs.step hlt h0k
    have hZn:=(hBn.isZ jb).2
    have hIn:=hIs.step hlt (hBs.isZ jb).1 hBs.p0 hZn
    have hv0:v≠0:=λe=>hB5.p0 (by rw[e,(alh t).mpr rfl];rfl)
    refine(ZK Na.wf hM8 (by show σ4.aj<=σ7.aj;omega) hn2 jb hlt jb hv0 (λi j hi hj=>hIs.u hi hj) hv5 jb λi j hi hj=>hZn i j hi jb).mono ?_
    rintro _ σ9 ⟨⟨S',U',hM9,hval⟩,hK9⟩
    have az8:σ7.aj<=σ9.aj:=hK9.le
    have LY:=hK9.get Na.wf ((ak _ _ _ _ jb).trans ((ak _ _ _ _ jb).trans akL)) (.inr jp)
    have qk9:=hK9.get Na.wf ((ak _ _ _ _ jb).trans ((ak _ _ _ _ jb).trans qk7)) (.inr jb)
    have q09:=hM9.o
    have qr9:=(hM9.r k hlt).1
    have aBK:=hM9.r k hlt
    simp(disch:=try exact jz) only[go_sem,t7,t8,t11,t56,t57,au q09,q09,au qk9,qk9,au qr9,qr9,au LY,LY,aI LY]
    have ep:((iv (S' k k) (U' k k):Int):Rat)=jc (λi=>S (swp k (k+a) i)) (λi=>U (swp k (k+a) i)) k k:=(hval k k hlt jb).trans (ae rfl)
    have hI9:L8 n (L6 b (k+1)) (jc S' U'):=λi j hi hj=>by obtain⟨z,ez,hz1⟩:=hIn i j hi hj;exact⟨z,(hval i j hi jb).trans ez,hz1⟩
    have uU:=hf5.le
    have Eo:=pG.fr (aU.to (hf5.trans um) Na λb hb=>by simp at hb;omega) hK9 jb
    refine⟨n-(k+1),jb,k+1,S',U',_,_,_,_,rfl,jb,rfl,rfl,hM9.keep λb hb=>ak _ _ _ _ jb,?_,hI9,hI9.u hlt jb,hS5.swap hlt ha,fr,jb⟩
    rw[ep]
    exact Bar.auJ hBn jb λi j hi hj=>(hval i j hi jb).symm
   .have:k=n:=jb
    subst this
    simp(disch:=try exact jz) only[go_sem,am]
    exact⟨S,U,bs,_,t7,t8,Zn,hI5,Bar.diag hB5,hB5.p0,λi hi=>hS5.1 (λl=>jc S U l k/jc S U l l) (hB5.done).2 i hi,hf5,jb⟩
  .rintro _ tm5 σ5 ⟨rfl,S,U,bs,p,t7,t8,Zn,hI5,hd5,hp5,hs5,hf5,hn5⟩
   have hlen5:lenV (.c (.sl σ1.aj 0 n (.ex n)))=some (jN n):=rfl
   have Hl:=Fr.refl hf5.wf
   have hb5:=Zn.b
   have hl5:=Zn.l
   simp(disch:=try exact jz) only[go_sem,t7,t8]
   refine aF (λx tm σ6=>∃i,x=n-i/\i<=n/\Tr.ah tm 7=jN n/\Tr.ah tm 14=.c (.sl σ5.aj 0 n (.ex n))/\Tr.ah tm 99=.c (.sl σ1.aj 0 n (.ex n))/\Tr.ah tm 100=jN n/\Tr.ah tm 101=jN i
    /\σ6.h σ5.aj=some ⟨cZ n (λk=>if k<i then jc S U k n/jc S U k k else 0),none⟩/\Fr σ5 σ6/\σ5.aj+1<=σ6.aj) n ?_ ?_
   .refine⟨0,jb,jb,?_⟩
    simp(disch:=try exact jz) only[go_sem,am,t7,t8]
    exact⟨by rw[yP n λk=>jc S U k n/jc S U k k],fr,jp⟩
   .rintro x tm6 σ6 ⟨i,rfl,hi1,t7,t14,FT,uf,ayB,Zd,gV,hn6⟩
    have az4:=Fr.refl gV.wf
    have q0:=gV.get hf5.wf Zn.o
    simp(disch:=try exact jz) only[go_sem,t7,t14,FT,uf,ayB,aG]
    refine aH (λhlt=>?_) (λhlt=>?_)
    .have qi:=gV.get hf5.wf (Zn.r i hlt).1
     have hUi:0<U i i:=fg λe=>hp5 (by rw[<-hd5 i hlt];unfold jc;rw[(alh _).mpr e];rfl)
     have z1:=nZ (hI5.u hlt (show n<n+1 by omega)) jb
     have z2:=nZ (hI5.u hlt (show i<n+1 by omega)) jb
     have hfr:Ins.fr (false==(S i n==S i i)) (U i n) (U i i)=jc S U i n/jc S U i i:=ayu _ _ hUi
     have hst:=tN n i (λk=>jc S U k n/jc S U k k)
     have aBL:=gV.wf.lt Zd
     simp(disch:=try exact jz) only[go_sem,t7,t14,FT,uf,ayB,au q0,q0,au qi,qi,hfr,Zd,aI Zd,hst]
     exact⟨n-(i+1),jb,i+1,rfl,jb,rfl,rfl,fr,jb⟩
    .have:i=n:=jb
     subst this
     simp(disch:=try exact jz) only[go_sem,t14]
     refine⟨⟨σ5.aj,jc S U,p,rfl,?_,jb,jb,hI5,hd5,hp5,hs5⟩,hf5.trans gV⟩
     rw[Zd,zT]
def qg.hr{h:Tr Bk}{mb n lo hi:Nat}{A:Nat->Nat->Rat}{bs:Nat->Nat}(hM:qg h mb n (rC A) bs lo hi){p:Nat->Prop}(hp:∀b,b=mb\/lo<=b/\b<hi->p b):dQ p h (.sl mb 0 n (.ex n)) n (λ_=>n) A:=
 ⟨λi=>y7 (λ_=>n) bs i,bD _ hM.o rfl (hp _ (.inl rfl)) (λ_=>rfl) jj (λ_ _=>rfl),λi hi=>hM.r.hlp (λb h1 h2=>hp b (.inr ⟨h1,h2⟩)) jj (λ_ _=>rfl) (λ_ _ _ _=>rfl) hi⟩
def Ut{n:Nat}{l:List Nat}(hn:l.Nodup)(hl:∀i∈l,i<n):l.length<=n:=by have:=hn.length_le_of_subset (l₂:=List.range n) λi hi=>fX.mpr (hl i hi);grind
def aej{l:List Nat}(hn:l.Nodup)(v:Nat->Rat):Qz l v l.length=qQ l v:=by grind[agD]
def qK:Nat:=120000
def Gs:qK=120000:=rfl
def aqN{n:Nat}(h:n<=8){a:Nat}(ha:a<=440):L6 a n<=qK:=by
 have hq:=Gs;have h1:=BA a h;have h2:∀c,L6 a c+1=2^c*(a+1):=λc=>by
  induction c with
  |zero=>show a+1=1*(a+1);omega
  |succ c ih=>grind[L6]
 grind
def auP{σ:St}(hW:WF σ){sb xb:Nat}{g:fC}{x:Nat->Rat}(hs:FV (Lt σ.aj) σ.h sb g)(h:jJ g)(hx:σ.h xb=some ⟨cZ g.e.length x,none⟩){t:Rat}(hP:uZ g x t){p p':Nat->Prop}{Dv Sv:B}(hDv:dQ p σ.h Dv g.e.length (kE g.e) (Ns g x))(hSv:dQ p σ.h Sv g.e.length (kE g.e) (LX g x))
  {mtv:B}(hM:dQ p' σ.h mtv g.e.length (λ_=>g.e.length) (gM g.e.length (bI g) x)){iv:B}{l:List Nat}(hl:Zx σ.h iv l) (hc:Jo g.e.length (gM g.e.length (bI g) x) l){least:Bool}(hI:Ew h.NG (jq g) least x t)
  (hre:least=true->∀E:Nat->Prop,(∃i,i<g.e.length/\E i/\i∈l)->(∀j,j<g.e.length->E j->jq g j=0)->(∀j i,j<g.e.length->i<g.e.length->E j->gM g.e.length (bI g) x j i≠0->E i)->False) (ht:least=true->t<1):
  aC EN 97 [.c (.ptr sb 0),.c (.sl xb 0 g.e.length (.ex g.e.length)),.agg [Dv,Sv],.c mtv,.c iv] σ λr σ'=>∃y,Y9 σ σ' r g.e.length y/\Ew h.NG (jq g) least y t/\uZ g y t/\meas g y t<meas g x t/\Fr σ σ':=by
 refine aO (ng.o _ _) ng.h ?_
 unfold ng
 dsimp only
 have hn8:=h.n
 have hll:=Ut hc.nodup hc.lt
 have hne:=hc.ne
 have hx0:=hI.nn
 obtain⟨m1,m2,m3⟩:=h.mz hx0
 have k1:=hDv.kn
 have k2:=hSv.kn
 have k3:=hM.kn
 have k4:=hl.kn
 have hle0:=hl.len
 have hFr:=Fr.refl hW
 have hZ:=h.aAp hx0 hc.lt
 have hqK:=Gs
 have hex:=aqN (n:=l.length) jb (a:=eB) jj
 simp(disch:=try exact jz) only[go_sem,k1,k2]
 refine aC.st (Fr σ) (fr) λhF=>?_
 refine(aqJ hF.wf (hM.fr hW hF) m1 m2 (hl.fr hW hF) jb hc.lt).mono ?_
 rintro _ σ1 ⟨⟨mb,bs,rfl,hmb,hM1⟩,hf1⟩
 have hF1:=hF.trans hf1
 have aAr:=hM1.b
 have aAs:=hM1.l
 simp(disch:=try exact jz) only[go_sem,am]
 refine(alC hf1.wf (hM1.hr (p:=Lt σ1.aj) λb hb=>by show b<σ1.aj;omega) hne jb hne jb hZ jb).mono ?_
 rintro _ σ2 ⟨⟨kb,rfl,hK⟩,hf2⟩
 have hF2:=hF1.trans hf2
 obtain⟨f0,hf0,hfP⟩:=alz hc
 generalize hEP:ech l.length (oU (gM g.e.length (bI g) x) l) l.length=EP at*
 obtain⟨F,P⟩:=EP
 have aqO:0<(ig (KH P) l.length).length:=List.length_pos_of_mem ((Bv (KH P) f0 l.length).mpr ⟨hf0,by grind[KH]⟩)
 have hfin:=jh aqO
 have aAt:=(Bv (KH P) _ l.length).mp hfin
 obtain⟨hfl,hfb⟩:=aAt
 have aBM:at0 (ig (KH P) l.length) 0∉P:=λhin=>by grind[KH]
 have ayC:=apx (h.sub hx0) hc hfl kd
 have hFZ:=Un hZ (c:=l.length) jp
 have hEl:=(KC l.length l.length (oU (gM g.e.length (bI g) x) l) l.length).len
 rw[hEP]at ayC hFZ hEl
 have hdz:FY g.e.length qK (qQ l (kvT l.length F P 0)):=by obtain⟨Q,q1,q2,q3⟩:=aAq (n:=g.e.length) (l:=l) hEl hfl hFZ rfl;exact⟨Q,q1,ap q2 (zV hex),λi hi=>by obtain⟨z,ez,hz⟩:=q3 i hi;exact⟨z,ez,ap hz (zV hex)⟩⟩
 obtain⟨hdm,hdp⟩:=ayC
 have hdm:∀j,j<g.e.length->qQ l (kvT l.length F P 0) j=mv g.e.length (gM g.e.length (bI g) x) (qQ l (kvT l.length F P 0)) j:=hdm
 have hdp:∀i∈l,0<qQ l (kvT l.length F P 0) i:=hdp
 have hdn:Nn g.e.length (qQ l (kvT l.length F P 0)):=λi _=>by grind[vJ]
 obtain⟨b0,o0,c0,T0,e0,-,wO,hT0⟩:=hK.at aqO
 have wO:ld σ2.h b0 (o0+0*1) 1 false=some (.c T0):=wO
 have hT0:kJ (Lt σ2.aj) σ2.h T0 l.length (kvT l.length F P 0):=hT0
 dsimp only at e0
 simp(disch:=try exact jz) only[go_sem,e0,wO]
 refine(Zy hf2.wf (hl.fr hW hF2) hT0 jb jb hc.lt).mono ?_
 rintro _ σ3 ⟨⟨db,rfl,hdb,hd1,hd2⟩,hf3⟩
 rw[aej hc.nodup]at hdb
 have hF3:=hF2.trans hf3
 have hx3:=hF3.get hW hx
 have q7:σ3.h σ.aj=some ⟨[Dv,Sv],none⟩:=(hf1.trans (hf2.trans hf3)).get hF.wf (aA _ _ _)
 obtain⟨D,hNr⟩:=hP.nr h hdn hdz (gx Gs)
 generalize hdd:qQ l (kvT l.length F P 0)=d at*
 have hdr:kJ (λ_=>True) σ3.h (.sl db 0 g.e.length (.ex g.e.length)) g.e.length d:=bD (G:=λc=>dO (d c)) _ hdb rfl trivial (λ_=>rfl) jj λ_ _=>rfl
 have hxr:kJ (λ_=>True) σ3.h (.sl xb 0 g.e.length (.ex g.e.length)) g.e.length x:=bD (G:=λc=>dO (x c)) _ hx3 rfl trivial (λ_=>rfl) jj λ_ _=>rfl
 simp(disch:=try exact jz) only[go_sem,au q7,k1,k2]
 refine(Uk hf3.wf (hs.fr hF3) hxr hdr ((hDv.fr hW hF3).keep (λ_ _=>rfl) λ_ _=>trivial) ((hSv.fr hW hF3).keep (λ_ _=>rfl) λ_ _=>trivial) hNr).mono ?_
 rintro _ σ4 ⟨rfl,hf4⟩
 have hD3:∀i,i<g.e.length->Hr ((bI g).e i) ((bI g).k i) (x i) (nO g x i):=λi hi=>(alv h hi (hx0 i hi)).2
 have hcn:=agC h.NG hD3 hc hdp
 rcases WE (kK g.e.length (bI g) (nO g x) x d)with⟨e,-⟩|⟨v,ev,hvm,hvl⟩
 .grind
 .rw[ev]
  have hz0:∀i,i∉l->d i=0:=λi hi=>by rw[<-hdd];exact vJ hi
  obtain⟨hI',hmu⟩:=ak2 h.NG (jq g) (λj hj=>(h.m j hj).2.2.1) hI hD3 hdp hz0 hdm hre ht hvm hvl
  have hms:meas g (bF x d v) t<meas g x t:=by unfold meas;omega
  have hP':=(hP.akT h hdn hdz (gx Gs) hvm (.inl rfl) hI' hms).1
  obtain⟨s1,s2⟩:=hP.ayx h hdn hdz (gx Gs) hI.t0 hI.t1 (.inl hvm)
  have s3:=(hP.sz hI.t0 hI.t1).1
  have s4:=(hP'.sz hI.t0 hI.t1).1
  have jr:=hF3.trans hf4
  have FQ:=Fr.refl hf4.wf
  simp(disch:=try exact jz) only[go_sem,am]
  refine aC.st (Fr σ4) (fr) λgy=>?_
  have hx5:=(jr.trans gy).get hW hx
  have hd5:=(hf4.trans gy).get hf3.wf hdb
  have hdr:kJ (λ_=>True) _ (.sl db 0 g.e.length (.ex g.e.length)) g.e.length d:=bD (G:=λc=>dO (d c)) _ hd5 rfl trivial (λ_=>rfl) jj λ_ _=>rfl
  have hxr:kJ (λ_=>True) _ (.sl xb 0 g.e.length (.ex g.e.length)) g.e.length x:=bD (G:=λc=>dO (x c)) _ hx5 rfl trivial (λ_=>rfl) jj λ_ _=>rfl
  refine(NC gy.wf hxr hdr jb s1 s3 (λi hi=>(s2 i hi).1) (λi hi=>(s2 i hi).2) s4).mono ?_
  rintro _ σ6 ⟨⟨rb,rfl,hr1,hr2,hr3⟩,gV⟩
  have pY:=jr.le
  have hr2:σ4.aj+1<=rb:=hr2
  simp(disch:=try exact jz) only[go_sem,am]
  exact⟨_,⟨rb,rfl,hr1,jb,hr3⟩,hI',hP',hms,(jr.trans gy).trans gV⟩
def auQ{g:fC}(h:jJ g){x:Nat->Rat}(hx:∀i,i<g.e.length->0<=x i){l:List Nat}(hl:∀i∈l,i<g.e.length):∃Q b:Nat,0<Q/\Q<=2^b/\b<=440/\∀i k,i<l.length->k<l.length+1->∃z:Int,oV l.length (oU (gM g.e.length (bI g) x) l) (λa=>-jq g (at0 l a)) i k=(z:Rat)/(Q:Rat)/\z.natAbs<=2^b:=by
 have heB:=ZN;obtain⟨p1,p2⟩:=h.gE hx;have hp:=cg (show 0<60 by decide) p1;have hle:60*Xe.gE g x<=2^(6+eB):=qj jj p2;refine⟨60*Xe.gE g x,6+eB+7,hp,ap hle (zV jb),jb,λi k hi hk=>?_⟩;have e60:((100:Nat):Rat)=100:=rfl;have key:dX (60*Xe.gE g x) (oV l.length (oU (gM g.e.length (bI g) x) l) (λa=>-jq g (at0 l a)) i k)/\-100<=oV l.length (oU (gM g.e.length (bI g) x) l) (λa=>-jq g (at0 l a)) i k/\oV l.length (oU (gM g.e.length (bI g) x) l) (λa=>-jq g (at0 l a)) i k<=100:=by
  unfold oV;split
  .next hk'=>
   have h1:=hl _ (jh hi);have h2:=hl _ (jh hk');have h3:=h.m01 hx h1 h2;have h4:=h.mD hx (j:=at0 l i) h2;have hone:dX (Xe.gE g x) (1:Rat):=⟨Xe.gE g x,by have:=iI p1;have e:(((Xe.gE g x:Nat):Int):Rat)=((Xe.gE g x:Nat):Rat):=rfl;grind⟩
   unfold oU wR;refine⟨(h4.sub ?_).dvd (gC _ _) hp,?_,?_⟩
   .grind[dX.zero]
   .grind
   grind
  .have h1:=(h.m _ (hl _ (jh hi))).2;show dX _ (-(ix g.e (at0 l i)).m.q)/\-100<=-(ix g.e (at0 l i)).m.q/\-(ix g.e (at0 l i)).m.q<=100;exact⟨(h1.1.dvd (aR _ _) hp).neg,by grind,by grind⟩
 obtain⟨z,ez,hz⟩:=WL (K:=100) hp hle key.1 kd kd;grind
def auR{σ:St}(hW:WF σ){sb:Nat}{g:fC}{x:Nat->Rat}(hs:FV (Lt σ.aj) σ.h sb g)(h:jJ g)(hx0:Nn g.e.length x){p':Nat->Prop}{mtv:B}(hM:dQ p' σ.h mtv g.e.length (λ_=>g.e.length) (gM g.e.length (bI g) x)){iv:B}{l:List Nat}(hl:Zx σ.h iv l)(hnd:l.Nodup)(hln:∀i∈l,i<g.e.length)
  (hcl:WB g.e.length (gM g.e.length (bI g) x) l) (hno:∀S:Nat->Prop,(∃i,i<g.e.length/\S i)->(∀i,i<g.e.length->S i->i∈l)->¬Ins.Shut g.e.length (gM g.e.length (bI g) x) S) (hc0:∀j,j<g.e.length->j∉l->jq g j=0):
  aC EN 98 [.c (.ptr sb 0),.c mtv,.c iv] σ λr σ'=>∃v,Y9 σ σ' r g.e.length v/\Nn g.e.length v/\(∀j,j<g.e.length->v j=mv g.e.length (gM g.e.length (bI g) x) v j+jq g j)/\(∀j,j∉l->v j=0)/\FY g.e.length qK v/\Fr σ σ':=by
 refine aO (ni.o _ _) ni.h ?_
 unfold ni
 dsimp only
 have hn8:=h.n
 have hll:=Ut hnd hln
 obtain⟨m1,m2,m3⟩:=h.mz hx0
 have k3:=hM.kn
 have k4:=hl.kn
 have hle0:=hl.len
 have hlM:=hM.len
 have hFr:=Fr.refl hW
 have hng:=λ(args:List V) (σ:St) (K:V->St->Prop)=>lS (E:=EN) (K:=K) (eY.o args σ) eY.h
 unfold eY at hng
 dsimp only at hng
 by_cases hl0:l.length=0
 .have e0:l=[]:=gH.mp hl0
  subst e0
  have hle0:lenV (.c iv)=some (jN 0):=hle0
  simp(disch:=try exact jz) only[go_sem,hle0,gn,hlM]
  refine⟨λ_=>0,⟨σ.aj,rfl,aA _ _ _,jp,bR _⟩,λ_ _=>aY,λj hj=>?_,λ_ _=>rfl,⟨1,jj,hJ,λi _=>⟨0,show(0:Rat)=((0:Int):Rat)/((1:Nat):Rat) by decide+kernel,br _⟩⟩,fr⟩
  grind[mv,bK]
 .have e1:decide (l.length=0)=false:=az hl0
  have hs':=hs
  obtain⟨⟨ev,gv,lv,bv,hsb,hg,⟨R,P,hL1,hL2⟩,hB⟩,hsl⟩:=hs
  have hsl:sb<σ.aj:=hsl
  have hek:=hg.e.kn
  simp(disch:=try exact jz) only[go_sem,hle0,e1]
  refine bM.mono (Q:=λex tm σ4=>ex=.exit 0/\Tr.ah tm 1=.c mtv/\Tr.ah tm 2=.c iv/\Tr.ah tm 7=.c (.sl σ.aj 0 l.length (.ex l.length))/\σ4.h σ.aj=some ⟨cZ l.length (λa=>-jq g (at0 l a)),none⟩/\Fr σ σ4/\σ.aj+1<=σ4.aj)
   (aF (λq tm σ4=>∃k,q=l.length-k/\k<=l.length/\Tr.ah tm 0=.c (.ptr sb 0)/\Tr.ah tm 1=.c mtv/\Tr.ah tm 2=.c iv/\Tr.ah tm 7=.c (.sl σ.aj 0 l.length (.ex l.length))/\Tr.ah tm 21=.c iv/\Tr.ah tm 22=jN l.length/\Tr.ah tm 23=jN k
    /\σ4.h σ.aj=some ⟨cZ l.length (λa=>if a<k then-jq g (at0 l a)else 0),none⟩/\Fr σ σ4/\σ.aj+1<=σ4.aj) l.length ?_ ?_) ?_
  .refine⟨0,jb,jb,?_⟩
   simp(disch:=try exact jz) only[go_sem,am]
   exact⟨by rfl,fr,jp⟩
  .rintro q tm σ4 ⟨k,rfl,hk,t0,t1,t2,t7,t21,t22,t23,q7,hf,hnx⟩
   have FQ:=Fr.refl hf.wf
   simp(disch:=try exact jz) only[go_sem,t0,t1,t2,t7,t21,t22,t23,aG]
   refine aH (λhlt=>?_) (λhlt=>?_)
   .obtain⟨bi,oi,ci,ei,RU⟩:=hl.one jb
    have RU:=hf.ld hW (RU k hlt)
    have ai:V.c (.sl bi oi l.length ci)=V.c iv:=by rw[ei]
    rw[ei]at t21
    have hin:=hln _ (jh hlt)
    have akK:=hf.get hW hsb
    obtain⟨b5,o5,c5,rfl,C1,A1,bf,-,hC,hA1⟩:=hg.e.at hin
    have bf:=hf.ld hW bf
    have LM:=aX.kn hC
    have hAk:=hA1.kn
    have hw:=qE (h.m _ hin).1
    have hst:=tN l.length k (λa=>-jq g (at0 l a))
    have ld3:=BM bf 3 true jj jj
    have hl7:=hf.wf.lt q7
    have hrq:rq (ix g.e (at0 l k)).m.n (ix g.e (at0 l k)).m.s (ix g.e (at0 l k)).m.d=jq g (at0 l k):=rfl
    have hcp:=(h.m _ hin).2
    have hcs:jq g (at0 l k)=(ix g.e (at0 l k)).m.q:=rfl
    have zq:Sz (jq g (at0 l k)):=by rw[hcs];exact(H6 (b:=6) jj jj hcp.1 (by have:=hcp.2.1;grind) (by have:=hcp.2.2;grind)).sz jj
    simp(disch:=try exact jz) only[go_sem,t0,t1,t2,t7,t21,t22,t23,RU,au akK,ld3,hng,XV,hrq,q7,aI q7,hek,hst]
    exact⟨l.length-(k+1),jb,k+1,rfl,jb,ai,rfl,rfl,fr,jb⟩
   .have:k=l.length:=jb
    subst this
    simp(disch:=try exact jz) only[go_sem,am]
    refine⟨t1,t2,t7,?_,hf,hnx⟩
    rw[q7,zT]
  .rintro _ tm σ4 ⟨rfl,t1,t2,t7,q7,hf4,hn4⟩
   have pY:=hf4.le
   simp(disch:=try exact jz) only[go_sem,t1,t2,t7]
   refine(aqJ hf4.wf (hM.fr hW hf4) m1 m2 (hl.fr hW hf4) jb hln).mono ?_
   rintro _ σ5 ⟨⟨mb,bs,rfl,hmb,Zn⟩,hf5⟩
   have gy:=hf4.trans hf5
   have q75:=hf5.get hf4.wf q7
   have aAr:=Zn.b
   have aAs:=Zn.l
   obtain⟨Q,b,Q1,Q2,Q3,Q4⟩:=auQ h hx0 hln
   have hex:=aqN (n:=l.length) jb Q3
   have hqK:=Gs
   have hinj:=agT (h.sub hx0) hnd hln hcl hno (B:=oU (gM g.e.length (bI g) x) l) (s:=λ_=>1) (λ_ _=>jj) λi j _ _=>(iS _).symm
   simp(disch:=try exact jz) only[go_sem,t1,t2,t7]
   refine(apz hf5.wf (Zn.hr (p:=λ_=>True) λ_ _=>trivial) (bD (G:=λa=>dO (-jq g (at0 l a))) (p:=λ_=>True) _ q75 rfl trivial (λ_=>rfl) jj λ_ _=>rfl) jb jb Q1 Q2 Q4 jb hinj).mono ?_
   rintro _ σ6 ⟨⟨nb,W,p,rfl,hnb,g1,g2,hIZ,hdi,hp0,hso⟩,gV⟩
   have kL:=gy.trans gV
   simp(disch:=try exact jz) only[go_sem,t1,t2,hlM]
   refine(Zy (p:=λ_=>True) gV.wf (hl.fr hW kL) (bD (G:=λc=>dO (W c l.length/W c c)) _ hnb rfl trivial (λ_=>rfl) jj λ_ _=>rfl) jb jb hln).mono ?_
   rintro _ σ7 ⟨⟨rb,rfl,hr1,hr2,hr3⟩,pz⟩
   rw[aej hnd]at hr1
   have yZ:=kL.le
   have hv:=alA (M:=gM g.e.length (bI g) x) (l:=l) (B:=oV l.length (oU (gM g.e.length (bI g) x) l) λa=>-jq g (at0 l a)) (s:=λ_=>1) (v:=λi=>W i l.length/W i i) (c:=jq g) (λ_ _=>jj) (λi j _ hj=>by unfold oV;rw[ae hj,iS]) (λi _=>by unfold oV;rw[ab jb,iS]) λi hi=>by have e:oV l.length (oU (gM g.e.length (bI g) x) l) (λa=>-jq g (at0 l a)) i l.length=-jq g (at0 l i):=ab jb;rw[e,<-hso i hi];exact aQ λj hj=>by unfold oV;rw[ae hj]
   have hcn:∀j,j<g.e.length->0<=jq g j:=λj hj=>(h.m j hj).2.2.1
   have hvz:FY g.e.length qK (qQ l λi=>W i l.length/W i i):=by obtain⟨Q',q1,q2,q3⟩:=ayt (n:=g.e.length) (l:=l) hIZ hdi hp0 jb rfl hnd;exact⟨Q',q1,ap q2 (zV hex),λi hi=>by obtain⟨z,ez,hz⟩:=q3 i hi;exact⟨z,ez,ap hz (zV hex)⟩⟩
   simp(disch:=try exact jz) only[go_sem,am]
   exact⟨_,⟨rb,rfl,hr1,jb,hr3⟩,ao4 (h.sub hx0) hnd hln hcl hno hcn hc0 hv,Jm hnd hln hcl hc0 hv,λj hj=>vJ hj,hvz,kL.trans pz⟩
end Go.Proofs.Xe
