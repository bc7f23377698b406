import Derived.Test.YtchhojplceoifaaGreatDoorYe43
set_option linter.all false
set_option maxRecDepth 100000
set_option maxHeartbeats 8000000
namespace Go.Proofs.Xe
open Go.RowKit Go.Proofs.Ins
def oz(n:Nat)(A:Nat->Nat->Rat)(bv:Nat->Rat)(i k:Nat):Rat:=if k<n then A i k else bv i
def akx{n:Nat}{A:Nat->Nat->Rat}{bv:Nat->Rat}{i:Nat}:cO (n+1) (aN (A i) n (bv i))=cO (n+1) (oz n A bv i):=dJ λk hk=>by grind[aN,oz]
def afI(m:Nat)(ws:Nat->Nat)(i k:Nat):B:=if k<i then .sl (ws k) 0 m (.ex m)else .aX
def aky{n m i b:Nat}{ws:Nat->Nat}:ones n (aN (afI m ws i) i (.sl b 0 m (.ex m)))=ones n (afI m (aN ws i b) (i+1)):=bF λk _=>by grind[aN,afI]
def Gp(n:Nat)(A:Nat->Nat->Rat)(bv:Nat->Rat)(i k:Nat):Bool:=rn (oz n A bv i k)
def Ea(n:Nat)(A:Nat->Nat->Rat)(bv:Nat->Rat)(cc:Nat->Nat)(i k:Nat):Nat:=(oz n A bv i k).num.natAbs*(cc i/(oz n A bv i k).den)
structure akz(n:Nat)(A:Nat->Nat->Rat)(bv:Nat->Rat)(Q:Nat)(h:Tr Bk)(ws cc:Nat->Nat)(i lo hi:Nat):Prop where
 r:∀k,k<i->h (ws k)=some ⟨PW (n+1) (Gp n A bv k) (Ea n A bv cc k),none⟩/\lo<=ws k/\ws k<hi
 inj:∀k l,k<i->l<i->ws k=ws l->k=l
 c:∀k,k<i->0<cc k/\cc k∣Q/\∀j,j<n+1->(oz n A bv k j).den∣cc k
def akz.up{n:Nat}{A:Nat->Nat->Rat}{bv:Nat->Rat}{Q:Nat}{h h':Tr Bk}{ws cc:Nat->Nat}{i lo hi hi' nb c:Nat}(hR:akz n A bv Q h ws cc i lo hi)(hk:∀b,lo<=b->b<hi->h' b=h b)(hl:lo<=hi)(h1:h' nb=some ⟨PW (n+1) (λk=>rn (oz n A bv i k)) (λk=>(oz n A bv i k).num.natAbs*(c/(oz n A bv i k).den)),none⟩)(h2:hi<=nb)(h3:nb<hi')(hc:0<c)(hcQ:c∣Q)(hcd:∀j,j<n+1->(oz n A bv i j).den∣c):akz n A bv Q h' (aN ws i nb) (aN cc i c) (i+1) lo hi':=by
 refine⟨λk hk1=>?_,λk l hk1 hl1 e=>?_,λk hk1=>?_⟩
 .by_cases e:k=i
  .subst e;rw[aP];refine⟨?_,jb,h3⟩;rw[h1];congr 2;refine Aw λj _=>⟨rfl,?_⟩
   unfold Ea;rw[aP]
  .obtain⟨k1,k2,k3⟩:=hR.r k jb;grind[Go.Proofs.Xe.aQ,Go.Proofs.Xe.Aw,Go.Proofs.Xe.Ea]
 .by_cases e1:k=i<;>by_cases e2:l=i
  .omega
  .exfalso;rw[e1,aP,aQ _ _ _ _ e2]at e;have:=(hR.r l jb).2.2;omega
  .exfalso;rw[e2,aP,aQ _ _ _ _ e1]at e;have:=(hR.r k jb).2.2;omega
  .rw[aQ _ _ _ _ e1,aQ _ _ _ _ e2]at e;exact hR.inj k l jb jb e
 .by_cases e:k=i
  .grind[aP]
  .rw[aQ _ _ _ _ e];exact hR.c k jb
def YZ(n:Nat)(A:Nat->Nat->Rat)(bv:Nat->Rat)(B:Nat->Nat->Rat):Prop:=
 (∀z:Nat->Rat,(∀i,i<n->aB n (λl=>B i l*z l)=B i n)->∀i,i<n->aB n (λl=>A i l*z l)=bv i)/\∀z:Nat->Rat,(∀i,i<n->aB n (λj=>B i j*z j)=0)->∀j,j<n->z j=0
def YZ.swap{n:Nat}{A B:Nat->Nat->Rat}{bv:Nat->Rat}(h:YZ n A bv B){r p:Nat}(hr:r<n)(hp:p<n):YZ n A bv λi=>B (swp r p i):=by
 refine⟨λz hz=>h.1 z λi hi=>?_,λz hz=>h.2 z λi hi=>?_⟩
 .have:=hz _ (oO hr hp hi);grind[MB]
 .have:=hz _ (oO hr hp hi);grind[MB]
def YZ.start{n:Nat}{A B:Nat->Nat->Rat}{bv:Nat->Rat}{c:Nat->Rat}(hc:∀i,i<n->c i≠0)(hB:∀i k,i<n->k<n+1->B i k=c i*oz n A bv i k)(hinj:∀z:Nat->Rat,(∀i,i<n->aB n (λj=>A i j*z j)=0)->∀j,j<n->z j=0):YZ n A bv B:=by
 have e:∀(z:Nat->Rat) i,i<n->aB n (λl=>B i l*z l)=c i*aB n λl=>A i l*z l:=λz i hi=>by rw[<-gQ];grind[Go.Proofs.Ins.aJ,Go.Proofs.Xe.oz]
 have cz:∀i,i<n->∀y:Rat,c i*y=0->y=0:=λi hi y h=>by grind
 refine⟨λz hz i hi=>?_,λz hz=>hinj z λi hi=>?_⟩
 .have h1:=hz i hi;rw[e z i hi,hB i n hi jb]at h1;grind[oz]
 .have h1:=hz i hi;rw[e z i hi]at h1;grind
def KT.u{n a:Nat}{S:Nat->Nat->Bool}{U:Nat->Nat->Nat}(h:KT n a (je S U)){i j:Nat}(hi:i<n)(hj:j<n+1):U i j<=2^a:=by obtain⟨z,ez,hz⟩:=h i j hi jb;unfold je at ez;have:=bO Int.natAbs (fi.mp ez);grind[zH]
def akA(r p i:Nat):swp r p i=swp p r i:=by grind[swp]
def atw{b n k:Nat}(h:k<n):Uk 1 (.c (.sl b 0 n (.ex n))) (some (.c (.int .i64 (.ofNat k)))) none none=some (.c (.sl b (k*1) (n-k) (.ex (n-k)))):=by grind[Uk,Uj,J8,xH,H7]
def aou{σ:St}(hW:WF σ){p p':Nat->Prop}{v w:B}{n:Nat}{A:Nat->Nat->Rat}{bv:Nat->Rat}(hA:dY p σ.h v n (λ_=>n) A)(hb:jc p' σ.h w n bv)(hn:0<n)(hn2:n<=16){Q b:Nat}(hQ:0<Q)(hQb:Q<=2^b)(hz:∀i k,i<n->k<n+1->∃z:Int,oz n A bv i k=(z:Rat)/(Q:Rat)/\z.natAbs<=2^b)(hb2:KR b n<=20000000)
  (hinj:∀z:Nat->Rat,(∀i,i<n->aB n (λj=>A i j*z j)=0)->∀j,j<n->z j=0):
  aC EN 155 [.c v,.c w] σ λr σ'=>(∃nb W p,r=.aV (.c (.sl nb 0 n (.ex n))) (.aV (.c (.int .i64 (.ofNat 0))) .tnil)/\σ'.h nb=some ⟨cO n (λi=>W i n/W i i),none⟩/\σ.aj<=nb/\nb<σ'.aj/\KT n (KR b n) W/\(∀i,i<n->W i i=p)/\p≠0/\∀i,i<n->aB n (λl=>A i l*(W l n/W l l))=bv i)/\Fr σ σ':=by
 refine aO (xQ.o _ _) xQ.h ?_
 unfold xQ
 dsimp only
 have hlen:=hA.len
 have hlw:=aY.len hb
 obtain⟨b6,o6,c6,T,rfl,-,bH,hT⟩:=hA.at hn
 have vS:ld σ.h b6 (o6+0*1) 1 false=some (.c T):=bH
 have hlT:=aY.len hT
 have hxa:=aj6 b n
 have hzs:∀i k,i<n->k<n->Sz (A i k):=λi k hi hk=>by obtain⟨z,ez,hz1⟩:=hz i k hi jb;have e:oz n A bv i k=A i k:=ab hk;rw[e]at ez;exact(show lJ b (A i k)from⟨z,Q,hQ,hQb,hz1,ez⟩).sz jb
 have hzg:∀i k,i<n->k<n+1->Sz (oz n A bv i k):=λi k hi hk=>by obtain⟨z,ez,hz1⟩:=hz i k hi hk;exact(show lJ b (oz n A bv i k)from⟨z,Q,hQ,hQb,hz1,ez⟩).sz jb
 have hsq:=λ(args:List V) (σ:St) (K:V->St->Prop)=>iL (E:=EN) (K:=K) (vO.o args σ) vO.h
 unfold vO at hsq
 dsimp only at hsq
 simp(disch:=try exact jz) only[go_sem,z3,hsq]
 refine(YT hW hA hn hn2 hn hn2).mono ?_
 rintro _ σ1 ⟨rfl,hf1⟩
 have vS:=hf1.ld hW vS
 have ae2:=Fr.refl hf1.wf
 simp(disch:=try exact jz) only[go_sem,z3,ofNat_eq,hlen,hlT,vS,hlw,gP]
 refine aC.st (Fr σ1) (fr) λhF=>?_
 have hF1:=hf1.trans hF
 refine(PN hF.wf (hA.fr hW hF1) hn2 hn jb hzs).mono ?_
 rintro _ σ2 ⟨⟨mb,bs,rfl,hmb,hM⟩,hf2⟩
 have hw0:σ2.h σ1.aj=some ⟨ones n λ_=>.aX,none⟩:=hf2.get hF.wf (aA _ _ _)
 have hmb:σ1.aj+1<=mb:=hmb
 have hF2:=hF1.trans hf2
 have hb0:=hM.b
 have hl0:=hM.l
 simp(disch:=try exact jz) only[go_sem,z3,am]
 refine bK.mono (Q:=λex tm σ4=>ex=.exit 0/\∃ws cc,Tr.ah tm 7=.c (.int .i64 (.ofNat n))/\Tr.ah tm 8=.c (.sl σ1.aj 0 n (.ex n))/\σ4.h σ1.aj=some ⟨ones n (afI (n+1) ws n),none⟩/\akz n A bv Q σ4.h ws cc n σ2.aj σ4.aj/\Fr σ σ4/\σ2.aj<=σ4.aj)
  (aF (λx tm σ4=>∃i ws cc,x=n-i/\i<=n/\Tr.ah tm 1=.c w/\Tr.ah tm 7=.c (.int .i64 (.ofNat n))/\Tr.ah tm 8=.c (.sl σ1.aj 0 n (.ex n))/\Tr.ah tm 31=.c (.sl mb 0 n (.ex n))/\Tr.ah tm 32=.c (.int .i64 (.ofNat n))/\Tr.ah tm 33=.c (.int .i64 (.ofNat i))
   /\σ4.h σ1.aj=some ⟨ones n (afI (n+1) ws i),none⟩/\akz n A bv Q σ4.h ws cc i σ2.aj σ4.aj/\σ4.h mb=some ⟨ones n λi=>.sl (bs i) 0 n .opn,none⟩/\(∀k,i<=k->k<n->σ4.h (bs k)=some ⟨cO n (A k),some (3,50)⟩)/\Fr σ σ4/\σ2.aj<=σ4.aj) n ?_ ?_) ?_
 .refine⟨0,λ_=>0,λ_=>0,jb,jb,?_⟩
  simp(disch:=try exact jz) only[go_sem,z3,am]
  exact⟨hw0.trans (bO (λl=>some (Bk.mk l none)) (bF λk _=>by unfold afI;rw[ae jb])),⟨λk h=>absurd h jb,λk l h=>absurd h jb,λk h=>absurd h jb⟩,hM.o,λk _ hk=>(hM.r k hk).1,hF2,jp⟩
 .rintro x tm σ4 ⟨i,ws,cc,rfl,hi1,t1,t7,t8,t31,t32,t33,q8,hR,qm,hrest,hf4,hn4⟩
  simp(disch:=try exact jz) only[go_sem,z3,t1,t7,t8,t31,t32,t33,aG]
  refine aH (λhlt=>?_) (λhlt=>?_)
  .have qr:=hrest i jp hlt
   obtain⟨-,g1,g2⟩:=hM.r i hlt
   obtain⟨b7,o7,c7,e7,-,dw⟩:=aY.at3 hb hlt
   have awC:=hW.dF dw
   have hle1:=hf1.le
   have dw:=hf4.ld hW dw
   have a7:V.c (.sl b7 o7 n c7)=V.c w:=by rw[e7]
   rw[e7]at t1
   have hl8:=hf4.wf.lt q8
   have hlr:=hf4.wf.lt qr
   have hFe:=aU.refl (ex:=[bs i]) hf4.wf
   have h5:=ahw n (A i)
   have hag:=akx (n:=n) (A:=A) (bv:=bv) (i:=i)
   simp(disch:=try exact jz) only[go_sem,z3,t1,t7,t8,t31,t32,t33,ak qm,qm,ak qr,qr,dw,hag]
   refine aC.st (aU [bs i] σ4) (by repeat(first|assumption|exact aU.refl (by assumption)|exact aU.up (by assumption) kf|exact aU.up (aU.refl (by assumption)) kf|refine aU.set1 ?_ kg kf|refine aU.kF ?_ kg|refine aU.nR ?_ kg|refine aU.oH ?_ kf)) λgU=>?_
   have qr5:(hset (hset (hdel (hset σ4.h σ4.aj ⟨[.bool (rn (bv i)),.str (rs (bv i)),.str (rd (bv i))],none⟩) (bs i)) (σ4.aj+1) ⟨cO (n+1) (oz n A bv i),some (3,50)⟩) (σ4.aj+1+1) ⟨[.sl (σ4.aj+1) 0 (n+1) .opn],none⟩) (σ4.aj+1)=some ⟨cO (n+1) (oz n A bv i),some (3,50)⟩:=(au _ _ _ _ jb).trans (aA _ _ _)
   have HR5:dY (λ_=>True) (hset (hset (hdel (hset σ4.h σ4.aj ⟨[.bool (rn (bv i)),.str (rs (bv i)),.str (rd (bv i))],none⟩) (bs i)) (σ4.aj+1) ⟨cO (n+1) (oz n A bv i),some (3,50)⟩) (σ4.aj+1+1) ⟨[.sl (σ4.aj+1) 0 (n+1) .opn],none⟩) (.sl (σ4.aj+1+1) 0 1 (.ex 1)) 1 (λ_=>n+1) λ_=>oz n A bv i:=
    ⟨λ_=>.sl (σ4.aj+1) 0 (n+1) .opn,bf (n:=1) (G:=λ_=>[.sl (σ4.aj+1) 0 (n+1) .opn]) _ (aA _ _ _) rfl trivial (λ_=>rfl) jj (λ_ _=>rfl),λj _=>bf (G:=λc=>gy (oz n A bv i c)) _ qr5 (Df _ _ jj) trivial (λ_=>rfl) jj λ_ _=>rfl⟩
   refine(PN gU.wf HR5 jj jb jb λ_ k _ hk=>hzg i k hlt hk).mono ?_
   rintro _ σ6 ⟨⟨m2,b2,rfl,hm2,hM2⟩,iw⟩
   have qm2:=hM2.o
   have qr2:=(hM2.r 0 jj).1
   have Aj:σ4.aj+1+1+1<=σ6.aj:=iw.le
   simp(disch:=try exact jz) only[go_sem,z3,t1,t7,t8,t31,t32,t33,ak qm2,qm2]
   refine(abo (p:=λ_=>True) iw.wf (bf (G:=λc=>gy (oz n A bv i c)) _ qr2 (Df _ _ jj) trivial (λ_=>rfl) jj λ_ _=>rfl) jb hQ hQb jb λk hk=>hz i k hlt hk).mono ?_
   rintro _ σ7 ⟨⟨nb,c,rfl,hnb,g3,g4,hc,hcQ,hcd⟩,oC⟩
   have atx:=iw.trans oC
   have sJ:aU [bs i] σ4 σ7:=gU.to' (ex:=[]) ⟨atx.le,atx.wf,λb hb _=>atx.old b hb⟩ kc
   have ai8:=sJ.le
   have q87:=sJ.get hf4.wf (by simp;omega) q8
   have qm7:=sJ.get hf4.wf (by simp;omega) qm
   have hst:=aky (n:=n) (m:=n+1) (i:=i) (b:=nb) (ws:=ws)
   simp(disch:=try exact jz) only[go_sem,z3,t1,t7,t8,t31,t32,t33,q87,aI q87,hst]
   refine⟨n-(i+1),jb,i+1,aN ws i nb,aN cc i c,rfl,jb,a7,rfl,rfl,hR.up (λb h1 h2=>(au _ _ _ _ jb).trans (sJ.old b h2 (by simp;omega))) hn4 ((au _ _ _ _ jb).trans hnb) jb g4 hc hcQ hcd,qm7,λk h1 h2=>?_,?_,jb⟩
   .obtain⟨-,k1,k2⟩:=hM.r k h2
    have hne:bs k≠bs i:=λe=>by have:=hM.inj k i h2 hlt e;omega
    exact(au _ _ _ _ jb).trans (sJ.get hf4.wf (by simpa using hne) (hrest k jb h2))
   .have LM:=aU.to hf4 sJ (λb hb=>by simp at hb;omega)
    exact fr
  .have:i=n:=jb
   subst this
   simp(disch:=try exact jz) only[go_sem,z3,am]
   exact⟨ws,cc,t7,t8,q8,hR,hf4,hn4⟩
 .rintro _ tm4 σ4 ⟨rfl,ws,cc,t7,t8,q8,hR,hf4,hn4⟩
  have uo:=hf4.le
  have hle1:=hf1.le
  have hM4:zI σ4.h σ1.aj n (n+1) (Gp n A bv) (Ea n A bv cc) ws σ2.aj σ4.aj:=⟨by rw[q8];exact bO (λl=>some (Bk.mk l none)) (bF λk hk=>ab hk),hR.r,hR.inj,jb,hn4⟩
  have hval:∀i k,i<n->k<n+1->je (Gp n A bv) (Ea n A bv cc) i k=(cc i:Rat)*oz n A bv i k:=λi k hi hk=>atp _ ((hR.c i hi).2.2 k hk)
  have hI4:KT n b (je (Gp n A bv) (Ea n A bv cc)):=λi k hi hk=>by
   obtain⟨z,ez,hz1⟩:=hz i k hi jb;obtain⟨c1,c2,c3⟩:=hR.c i hi;refine⟨iv (Gp n A bv i k) (Ea n A bv cc i k),rfl,?_⟩;have h1:=hval i k hi jb;obtain⟨d,hd⟩:=c2;have hc0:=iK c1;have hd0:0<d:=ft λe=>by rw[e]at hd;omega
   have hdr:=iK hd0;have h2:((iv (Gp n A bv i k) (Ea n A bv cc i k)*(d:Int):Int):Rat)=((z:Int):Rat):=by
    rw[dj];have e1:((iv (Gp n A bv i k) (Ea n A bv cc i k):Int):Rat)=je (Gp n A bv) (Ea n A bv cc) i k:=rfl;have e2:((d:Int):Rat)=(d:Rat):=rfl;have e3:(Q:Rat)=(cc i:Rat)*(d:Rat):=by rw[hd,fh]
    rw[e1,e2,h1,ez,e3];grind
   have h3:=bO Int.natAbs (fi.mp h2);rw[fv,ii]at h3;have h4:(iv (Gp n A bv i k) (Ea n A bv cc i k)).natAbs<=(iv (Gp n A bv i k) (Ea n A bv cc i k)).natAbs*d:=gi _ hd0;omega
  have hS4:YZ n A bv (je (Gp n A bv) (Ea n A bv cc)):=YZ.start (c:=λi=>(cc i:Rat)) (λi hi=>iK (hR.c i hi).1) hval hinj
  have hB4:Bar n 0 (je (Gp n A bv) (Ea n A bv cc)) (je (Gp n A bv) (Ea n A bv cc)) ((iv false 1:Int):Rat):=afu λi j _ _=>⟨_,rfl⟩
  clear hR hval
  have Cc:=Fr.refl hf4.wf
  have azS:=aU.refl (ex:=[]) hf4.wf
  simp(disch:=try exact jz) only[go_sem,z3,t7,t8]
  refine bK.mono (Q:=λex tm σ5=>ex=.exit 2/\∃S U bs p,Tr.ah tm 7=.c (.int .i64 (.ofNat n))/\Tr.ah tm 8=.c (.sl σ1.aj 0 n (.ex n))/\zI σ5.h σ1.aj n (n+1) S U bs σ2.aj σ4.aj/\KT n (KR b n) (je S U)/\(∀i,i<n->je S U i i=p)/\p≠0/\(∀i,i<n->aB n (λl=>A i l*(je S U l n/je S U l l))=bv i)/\Fr σ σ5/\σ4.aj<=σ5.aj)
   (aF (λx tm σ5=>∃k S U bs t v B,x=n-k/\k<=n/\Tr.ah tm 7=.c (.int .i64 (.ofNat n))/\Tr.ah tm 8=.c (.sl σ1.aj 0 n (.ex n))/\Tr.ah tm 11=.c (.ptr σ4.aj 0)/\Tr.ah tm 56=.c (.int .i64 (.ofNat n))/\Tr.ah tm 57=.c (.int .i64 (.ofNat k))
    /\σ5.h σ4.aj=some ⟨[.bool t,.str (bn v)],none⟩/\zI σ5.h σ1.aj n (n+1) S U bs σ2.aj σ4.aj/\Bar n k B (je S U) ((iv t v:Int):Rat)/\KT n (KR b k) (je S U)/\v<=2^KR b k/\YZ n A bv B/\Fr σ σ5/\σ4.aj+1<=σ5.aj) n ?_ ?_) ?_
  .refine⟨0,Gp n A bv,Ea n A bv cc,ws,false,1,je (Gp n A bv) (Ea n A bv cc),jb,jb,?_⟩
   simp(disch:=try exact jz) only[go_sem,z3,am,t7,t8]
   exact⟨hM4.keep λb hb=>by rw[au _ _ _ _ jb,au _ _ _ _ jb],hB4,hI4,ie,hS4,fr,jp⟩
  .rintro x tm5 σ5 ⟨k,S,U,bs,t,v,B,rfl,hk,t7,t8,t11,t56,t57,q11,Yn,hB5,hI5,hv5,hS5,hf5,hn5⟩
   simp(disch:=try exact jz) only[go_sem,z3,t7,t8,t11,t56,t57,aG]
   refine aH (λhlt=>?_) (λhlt=>?_)
   .have Fa:=Fr.refl hf5.wf
    have hsl:=atw (b:=σ1.aj) hlt
    have hxk:=Ar b (show k+1<=n by omega)
    have azT:KR b (k+1)=2*KR b k+1:=rfl
    simp(disch:=try exact jz) only[go_sem,z3,t7,t8,t11,t56,t57,hsl]
    refine aC.st (Fr σ5) (fr) λlK=>?_
    have hb5:=Yn.b
    have hl5:=Yn.l
    obtain⟨i0,j1,j2,j3⟩:=hB5.pivot hlt hS5.2
    refine(att lK.wf (Yn.keep λb hb=>lK.old b jb) hn2 jb hlt jb (aA _ _ _) ⟨i0,j1,j2,λe=>j3 (by unfold je;rw[(akg _).mpr e];rfl)⟩).mono ?_
    rintro _ σ7 ⟨⟨a,rfl,ha,hUa⟩,oC⟩
    have sJ:=lK.trans oC
    have ai8:=sJ.le
    have ay9:σ5.aj+1<=σ7.aj:=oC.le
    have hM7:zI σ7.h σ1.aj n (n+1) S U bs σ2.aj σ4.aj:=Yn.keep λb hb=>sJ.old b jb
    have ajA:=sJ.get hf5.wf q11
    have qk7:σ7.h σ5.aj=some ⟨[.int .i64 (.ofNat k)],none⟩:=oC.get lK.wf (aA _ _ _)
    have q0:=hM7.o
    have hst:=adn (n:=n) (r:=k+a) (p:=k) (f:=λi=>.sl (bs i) 0 (n+1) (.ex (n+1)))
    simp only[akA (k+a) k]at hst
    have azU:=aU.refl (ex:=[σ1.aj]) oC.wf
    simp(disch:=try exact jz) only[go_sem,z3,t7,t8,t11,t56,t57,afE,ak q0,q0,aI q0,ak qk7,qk7,ak ajA,ajA,hst]
    refine aC.st (aU [σ1.aj] σ7) (by repeat(first|assumption|exact aU.refl (by assumption)|exact aU.up (by assumption) kf|exact aU.up (aU.refl (by assumption)) kf|refine aU.set1 ?_ kg kf|refine aU.kF ?_ kg|refine aU.nR ?_ kg|refine aU.oH ?_ kf)) λLM=>?_
    have hM8:=hM7.swap (h':=hset (hset σ7.h σ1.aj ⟨ones n (aN (λi=>Xe.B.sl (bs i) 0 (n+1) (.ex (n+1))) k (.sl (bs (k+a)) 0 (n+1) (.ex (n+1)))),none⟩) σ1.aj ⟨ones n λi=>.sl (bs (swp k (k+a) i)) 0 (n+1) (.ex (n+1)),none⟩) hlt ha (aA _ _ _) λb h1 h2=>(au _ _ _ _ jb).trans (au _ _ _ _ jb)
    have hBs:=hB5.swap hlt (Nat.le_add_right k a) ha
    have eW:(λi=>je S U (swp k (k+a) i))=je (λi=>S (swp k (k+a) i)) (λi=>U (swp k (k+a) i)):=rfl
    rw[eW]at hBs
    have hIs:KT n (KR b k) (je (λi=>S (swp k (k+a) i)) (λi=>U (swp k (k+a) i))):=λi j hi hj=>hI5 _ j (oO hlt ha hi) hj
    have esw:swp k (k+a) k=k+a:=by unfold swp;rw[ab rfl]
    have h0k:je (λi=>S (swp k (k+a) i)) (λi=>U (swp k (k+a) i)) k k≠0:=by show((iv (S (swp k (k+a) k) k) (U (swp k (k+a) k) k):Int):Rat)≠0;rw[esw];exact λe=>hUa ((akg _).mp (fi.mp (show((iv (S (k+a) k) (U (k+a) k):Int):Rat)=((0:Int):Rat)from e)))
    have hBn:=hBs.step hlt h0k
    have hZn:=(hBn.isZ jb).2
    have hIn:=hIs.step hlt (hBs.isZ jb).1 hBs.p0 hZn
    have hv0:v≠0:=λe=>hB5.p0 (by rw[e,(akg t).mpr rfl];rfl)
    refine(YX LM.wf hM8 (by show σ4.aj<=σ7.aj;omega) hn2 jb hlt jb hv0 (λi j hi hj=>hIs.u hi hj) hv5 jb λi j hi hj=>hZn i j hi jb).mono ?_
    rintro _ σ9 ⟨⟨S',U',hM9,hval⟩,hK9⟩
    have ayi:σ7.aj<=σ9.aj:=hK9.le
    have KP:=hK9.get LM.wf ((au _ _ _ _ jb).trans ((au _ _ _ _ jb).trans ajA)) (.inr jp)
    have qk9:=hK9.get LM.wf ((au _ _ _ _ jb).trans ((au _ _ _ _ jb).trans qk7)) (.inr jb)
    have q09:=hM9.o
    have qr9:=(hM9.r k hlt).1
    have azV:=hM9.r k hlt
    simp(disch:=try exact jz) only[go_sem,z3,t7,t8,t11,t56,t57,ak q09,q09,ak qk9,qk9,ak qr9,qr9,ak KP,KP,aI KP]
    have ep:((iv (S' k k) (U' k k):Int):Rat)=je (λi=>S (swp k (k+a) i)) (λi=>U (swp k (k+a) i)) k k:=(hval k k hlt jb).trans (ab rfl)
    have hI9:KT n (KR b (k+1)) (je S' U'):=λi j hi hj=>by obtain⟨z,ez,hz1⟩:=hIn i j hi hj;exact⟨z,(hval i j hi jb).trans ez,hz1⟩
    have wO:=hf5.le
    have DN:=oD.fr (aU.to (hf5.trans sJ) LM λb hb=>by simp at hb;omega) hK9 jb
    refine⟨n-(k+1),jb,k+1,S',U',_,_,_,_,rfl,jb,rfl,rfl,hM9.keep λb hb=>au _ _ _ _ jb,?_,hI9,hI9.u hlt jb,hS5.swap hlt ha,fr,jb⟩
    rw[ep]
    exact Bar.atr hBn jb λi j hi hj=>(hval i j hi jb).symm
   .have:k=n:=jb
    subst this
    simp(disch:=try exact jz) only[go_sem,z3,am]
    exact⟨S,U,bs,_,t7,t8,Yn,hI5,Bar.diag hB5,hB5.p0,λi hi=>hS5.1 (λl=>je S U l k/je S U l l) (hB5.done).2 i hi,hf5,jb⟩
  .rintro _ tm5 σ5 ⟨rfl,S,U,bs,p,t7,t8,Yn,hI5,hd5,hp5,hs5,hf5,hn5⟩
   have hlen5:lenV (.c (.sl σ1.aj 0 n (.ex n)))=some (.c (.int .i64 (.ofNat n))):=rfl
   have Fa:=Fr.refl hf5.wf
   have hb5:=Yn.b
   have hl5:=Yn.l
   simp(disch:=try exact jz) only[go_sem,z3,t7,t8]
   refine aF (λx tm σ6=>∃i,x=n-i/\i<=n/\Tr.ah tm 7=.c (.int .i64 (.ofNat n))/\Tr.ah tm 14=.c (.sl σ5.aj 0 n (.ex n))/\Tr.ah tm 99=.c (.sl σ1.aj 0 n (.ex n))/\Tr.ah tm 100=.c (.int .i64 (.ofNat n))/\Tr.ah tm 101=.c (.int .i64 (.ofNat i))
    /\σ6.h σ5.aj=some ⟨cO n (λk=>if k<i then je S U k n/je S U k k else 0),none⟩/\Fr σ5 σ6/\σ5.aj+1<=σ6.aj) n ?_ ?_
   .refine⟨0,jb,jb,?_⟩
    simp(disch:=try exact jz) only[go_sem,z3,am,t7,t8]
    exact⟨by rw[uY n λk=>je S U k n/je S U k k],fr,jp⟩
   .rintro x tm6 σ6 ⟨i,rfl,hi1,t7,t14,E8,rZ,aw8,PU,iw,hn6⟩
    have aye:=Fr.refl iw.wf
    have q0:=iw.get hf5.wf Yn.o
    simp(disch:=try exact jz) only[go_sem,z3,t7,t14,E8,rZ,aw8,aG]
    refine aH (λhlt=>?_) (λhlt=>?_)
    .have qi:=iw.get hf5.wf (Yn.r i hlt).1
     have hUi:0<U i i:=ft λe=>hp5 (by rw[<-hd5 i hlt];unfold je;rw[(akg _).mpr e];rfl)
     have z1:=nC (hI5.u hlt (show n<n+1 by omega)) jb
     have z2:=nC (hI5.u hlt (show i<n+1 by omega)) jb
     have hfr:Ins.fr (false==(S i n==S i i)) (U i n) (U i i)=je S U i n/je S U i i:=aw4 _ _ hUi
     have hst:=oZ n i (λk=>je S U k n/je S U k k)
     have azW:=iw.wf.lt PU
     simp(disch:=try exact jz) only[go_sem,z3,t7,t14,E8,rZ,aw8,ak q0,q0,ak qi,qi,hfr,PU,aI PU,hst]
     exact⟨n-(i+1),jb,i+1,rfl,jb,rfl,rfl,fr,jb⟩
    .have:i=n:=jb
     subst this
     simp(disch:=try exact jz) only[go_sem,z3,t14]
     refine⟨⟨σ5.aj,je S U,p,rfl,?_,jb,jb,hI5,hd5,hp5,hs5⟩,hf5.trans iw⟩
     rw[PU,wQ]
def oh.hr{h:Tr Bk}{mb n lo hi:Nat}{A:Nat->Nat->Rat}{bs:Nat->Nat}(hM:oh h mb n (rC A) bs lo hi){p:Nat->Prop}(hp:∀b,b=mb\/lo<=b/\b<hi->p b):dY p h (.sl mb 0 n (.ex n)) n (λ_=>n) A:=
 ⟨λi=>yC (λ_=>n) bs i,bf _ hM.o rfl (hp _ (.inl rfl)) (λ_=>rfl) jj (λ_ _=>rfl),λi hi=>hM.r.hlp (λb h1 h2=>hp b (.inr ⟨h1,h2⟩)) jj (λ_ _=>rfl) (λ_ _ _ _=>rfl) hi⟩
def Tc{n:Nat}{l:List Nat}(hn:l.Nodup)(hl:∀i∈l,i<n):l.length<=n:=by have:=hn.length_le_of_subset (l₂:=List.range n) λi hi=>jN.mpr (hl i hi);grind
def adq{l:List Nat}(hn:l.Nodup)(v:Nat->Rat):PE l v l.length=qw l v:=by grind[afr]
def qK:Nat:=120000
def FP:qK=120000:=rfl
def apy{n:Nat}(h:n<=8){a:Nat}(ha:a<=440):KR a n<=qK:=by
 have hq:=FP;have h1:=Ar a h;have h2:∀c,KR a c+1=2^c*(a+1):=λc=>by
  induction c with
  |zero=>show a+1=1*(a+1);omega
  |succ c ih=>grind[KR]
 grind
def aty{σ:St}(hW:WF σ){sb xb:Nat}{g:gB}{x:Nat->Rat}(hs:DW (Lt σ.aj) σ.h sb g)(h:kG g)(hx:σ.h xb=some ⟨cO g.e.length x,none⟩){t:Rat}(hP:ou g x t){p p':Nat->Prop}{Dv Sv:B}(hDv:dY p σ.h Dv g.e.length (kE g.e) (Qm g x))(hSv:dY p σ.h Sv g.e.length (kE g.e) (KO g x))
  {mtv:B}(hM:dY p' σ.h mtv g.e.length (λ_=>g.e.length) (gM g.e.length (aZ g) x)){iv:B}{l:List Nat}(hl:VB σ.h iv l) (hc:IV g.e.length (gM g.e.length (aZ g) x) l){least:Bool}(hI:Aq h.I7 (iE g) least x t)
  (hre:least=true->∀E:Nat->Prop,(∃i,i<g.e.length/\E i/\i∈l)->(∀j,j<g.e.length->E j->iE g j=0)->(∀j i,j<g.e.length->i<g.e.length->E j->gM g.e.length (aZ g) x j i≠0->E i)->False) (ht:least=true->t<1):
  aC EN 97 [.c (.ptr sb 0),.c (.sl xb 0 g.e.length (.ex g.e.length)),.agg [Dv,Sv],.c mtv,.c iv] σ λr σ'=>∃y,Ql σ σ' r g.e.length y/\Aq h.I7 (iE g) least y t/\ou g y t/\meas g y t<meas g x t/\Fr σ σ':=by
 refine aO (lT.o _ _) lT.h ?_
 unfold lT
 dsimp only
 have hn8:=h.n
 have hll:=Tc hc.nodup hc.lt
 have hne:=hc.ne
 have hx0:=hI.nn
 obtain⟨m1,m2,m3⟩:=h.mz hx0
 have k1:=hDv.kn
 have k2:=hSv.kn
 have k3:=hM.kn
 have k4:=hl.kn
 have hle0:=hl.len
 have hFr:=Fr.refl hW
 have hZ:=h.ayB hx0 hc.lt
 have hqK:=FP
 have hex:=apy (n:=l.length) jb (a:=eB) jj
 simp(disch:=try exact jz) only[go_sem,z3,k1,k2]
 refine aC.st (Fr σ) (fr) λhF=>?_
 refine(apu hF.wf (hM.fr hW hF) m1 m2 (hl.fr hW hF) jb hc.lt).mono ?_
 rintro _ σ1 ⟨⟨mb,bs,rfl,hmb,hM1⟩,hf1⟩
 have hF1:=hF.trans hf1
 have ayL:=hM1.b
 have ayM:=hM1.l
 simp(disch:=try exact jz) only[go_sem,z3,am]
 refine(akw hf1.wf (hM1.hr (p:=Lt σ1.aj) λb hb=>by show b<σ1.aj;omega) hne jb hne jb hZ jb).mono ?_
 rintro _ σ2 ⟨⟨kb,rfl,hK⟩,hf2⟩
 have hF2:=hF1.trans hf2
 obtain⟨f0,hf0,hfP⟩:=akj hc
 generalize hEP:ech l.length (oq (gM g.e.length (aZ g) x) l) l.length=EP at*
 obtain⟨F,P⟩:=EP
 have apz:0<(dQ (JX P) l.length).length:=List.length_pos_of_mem ((su (JX P) f0 l.length).mpr ⟨hf0,by grind[JX]⟩)
 have hfin:=iM apz
 have ayN:=(su (JX P) _ l.length).mp hfin
 obtain⟨hfl,hfb⟩:=ayN
 have azX:at0 (dQ (JX P) l.length) 0∉P:=λhin=>by grind[JX]
 have aw9:=aoe (h.sub hx0) hc hfl kd
 have hFZ:=SN hZ (c:=l.length) jp
 have hEl:=(JO l.length l.length (oq (gM g.e.length (aZ g) x) l) l.length).len
 rw[hEP]at aw9 hFZ hEl
 have hdz:Fe g.e.length qK (qw l (kvT l.length F P 0)):=by obtain⟨Q,q1,q2,q3⟩:=ayE (n:=g.e.length) (l:=l) hEl hfl hFZ rfl;exact⟨Q,q1,aw q2 (yU hex),λi hi=>by obtain⟨z,ez,hz⟩:=q3 i hi;exact⟨z,ez,aw hz (yU hex)⟩⟩
 obtain⟨hdm,hdp⟩:=aw9
 have hdm:∀j,j<g.e.length->qw l (kvT l.length F P 0) j=mv g.e.length (gM g.e.length (aZ g) x) (qw l (kvT l.length F P 0)) j:=hdm
 have hdp:∀i∈l,0<qw l (kvT l.length F P 0) i:=hdp
 have hdn:Nn g.e.length (qw l (kvT l.length F P 0)):=λi _=>by grind[uJ]
 obtain⟨b0,o0,c0,T0,e0,-,vS,hT0⟩:=hK.at apz
 have vS:ld σ2.h b0 (o0+0*1) 1 false=some (.c T0):=vS
 have hT0:jc (Lt σ2.aj) σ2.h T0 l.length (kvT l.length F P 0):=hT0
 dsimp only at e0
 simp(disch:=try exact jz) only[go_sem,z3,e0,vS]
 refine(YD hf2.wf (hl.fr hW hF2) hT0 jb jb hc.lt).mono ?_
 rintro _ σ3 ⟨⟨db,rfl,hdb,hd1,hd2⟩,hf3⟩
 rw[adq hc.nodup]at hdb
 have hF3:=hF2.trans hf3
 have hx3:=hF3.get hW hx
 have q7:σ3.h σ.aj=some ⟨[Dv,Sv],none⟩:=(hf1.trans (hf2.trans hf3)).get hF.wf (aA _ _ _)
 obtain⟨D,hNr⟩:=hP.nr h hdn hdz (gT FP)
 generalize hdd:qw l (kvT l.length F P 0)=d at*
 have hdr:jc (λ_=>True) σ3.h (.sl db 0 g.e.length (.ex g.e.length)) g.e.length d:=bf (G:=λc=>gy (d c)) _ hdb rfl trivial (λ_=>rfl) jj λ_ _=>rfl
 have hxr:jc (λ_=>True) σ3.h (.sl xb 0 g.e.length (.ex g.e.length)) g.e.length x:=bf (G:=λc=>gy (x c)) _ hx3 rfl trivial (λ_=>rfl) jj λ_ _=>rfl
 simp(disch:=try exact jz) only[go_sem,z3,ak q7,k1,k2]
 refine(SV hf3.wf (hs.fr hF3) hxr hdr ((hDv.fr hW hF3).keep (λ_ _=>rfl) λ_ _=>trivial) ((hSv.fr hW hF3).keep (λ_ _=>rfl) λ_ _=>trivial) hNr).mono ?_
 rintro _ σ4 ⟨rfl,hf4⟩
 have hD3:∀i,i<g.e.length->Gh ((aZ g).e i) ((aZ g).k i) (x i) (mJ g x i):=λi hi=>(ake h hi (hx0 i hi)).2
 have hcn:=afq h.I7 hD3 hc hdp
 rcases VJ (jR g.e.length (aZ g) (mJ g x) x d)with⟨e,-⟩|⟨v,ev,hvm,hvl⟩
 .grind
 .rw[ev]
  have hz0:∀i,i∉l->d i=0:=λi hi=>by rw[<-hdd];exact uJ hi
  obtain⟨hI',hmu⟩:=ajU h.I7 (iE g) (λj hj=>(h.m j hj).2.2.1) hI hD3 hdp hz0 hdm hre ht hvm hvl
  have hms:meas g (bC x d v) t<meas g x t:=by unfold meas;omega
  have hP':=(hP.ajL h hdn hdz (gT FP) hvm (.inl rfl) hI' hms).1
  obtain⟨s1,s2⟩:=hP.awO h hdn hdz (gT FP) hI.t0 hI.t1 (.inl hvm)
  have s3:=(hP.sz hI.t0 hI.t1).1
  have s4:=(hP'.sz hI.t0 hI.t1).1
  have nX:=hF3.trans hf4
  have Cc:=Fr.refl hf4.wf
  simp(disch:=try exact jz) only[go_sem,z3,am]
  refine aC.st (Fr σ4) (fr) λgU=>?_
  have hx5:=(nX.trans gU).get hW hx
  have hd5:=(hf4.trans gU).get hf3.wf hdb
  have hdr:jc (λ_=>True) _ (.sl db 0 g.e.length (.ex g.e.length)) g.e.length d:=bf (G:=λc=>gy (d c)) _ hd5 rfl trivial (λ_=>rfl) jj λ_ _=>rfl
  have hxr:jc (λ_=>True) _ (.sl xb 0 g.e.length (.ex g.e.length)) g.e.length x:=bf (G:=λc=>gy (x c)) _ hx5 rfl trivial (λ_=>rfl) jj λ_ _=>rfl
  refine(MC gU.wf hxr hdr jb s1 s3 (λi hi=>(s2 i hi).1) (λi hi=>(s2 i hi).2) s4).mono ?_
  rintro _ σ6 ⟨⟨rb,rfl,hr1,hr2,hr3⟩,iw⟩
  have uo:=nX.le
  have hr2:σ4.aj+1<=rb:=hr2
  simp(disch:=try exact jz) only[go_sem,z3,am]
  exact⟨_,⟨rb,rfl,hr1,jb,hr3⟩,hI',hP',hms,(nX.trans gU).trans iw⟩
def atz{g:gB}(h:kG g){x:Nat->Rat}(hx:∀i,i<g.e.length->0<=x i){l:List Nat}(hl:∀i∈l,i<g.e.length):∃Q b:Nat,0<Q/\Q<=2^b/\b<=440/\∀i k,i<l.length->k<l.length+1->∃z:Int,oz l.length (oq (gM g.e.length (aZ g) x) l) (λa=>-iE g (at0 l a)) i k=(z:Rat)/(Q:Rat)/\z.natAbs<=2^b:=by
 have heB:=YO;obtain⟨p1,p2⟩:=h.gE hx;have hp:=cn (show 0<60 by decide) p1;have hle:60*Xe.gE g x<=2^(6+eB):=kC jj p2;refine⟨60*Xe.gE g x,6+eB+7,hp,aw hle (yU jb),jb,λi k hi hk=>?_⟩;have e60:((100:Nat):Rat)=100:=rfl;have key:eX (60*Xe.gE g x) (oz l.length (oq (gM g.e.length (aZ g) x) l) (λa=>-iE g (at0 l a)) i k)/\-100<=oz l.length (oq (gM g.e.length (aZ g) x) l) (λa=>-iE g (at0 l a)) i k/\oz l.length (oq (gM g.e.length (aZ g) x) l) (λa=>-iE g (at0 l a)) i k<=100:=by
  unfold oz;split
  .next hk'=>
   have h1:=hl _ (iM hi);have h2:=hl _ (iM hk');have h3:=h.m01 hx h1 h2;have h4:=h.mD hx (j:=at0 l i) h2;have hone:eX (Xe.gE g x) (1:Rat):=⟨Xe.gE g x,by have:=iK p1;have e:(((Xe.gE g x:Nat):Int):Rat)=((Xe.gE g x:Nat):Rat):=rfl;grind⟩
   unfold oq vX;refine⟨(h4.sub ?_).dvd (fu _ _) hp,?_,?_⟩
   .grind[eX.zero]
   .grind
   grind
  .have h1:=(h.m _ (hl _ (iM hi))).2;show eX _ (-(ix g.e (at0 l i)).m.q)/\-100<=-(ix g.e (at0 l i)).m.q/\-(ix g.e (at0 l i)).m.q<=100;exact⟨(h1.1.dvd (aM _ _) hp).neg,by grind,by grind⟩
 obtain⟨z,ez,hz⟩:=VH (K:=100) hp hle key.1 kd kd;grind
def atA{σ:St}(hW:WF σ){sb:Nat}{g:gB}{x:Nat->Rat}(hs:DW (Lt σ.aj) σ.h sb g)(h:kG g)(hx0:Nn g.e.length x){p':Nat->Prop}{mtv:B}(hM:dY p' σ.h mtv g.e.length (λ_=>g.e.length) (gM g.e.length (aZ g) x)){iv:B}{l:List Nat}(hl:VB σ.h iv l)(hnd:l.Nodup)(hln:∀i∈l,i<g.e.length)
  (hcl:Vy g.e.length (gM g.e.length (aZ g) x) l) (hno:∀S:Nat->Prop,(∃i,i<g.e.length/\S i)->(∀i,i<g.e.length->S i->i∈l)->¬Ins.Shut g.e.length (gM g.e.length (aZ g) x) S) (hc0:∀j,j<g.e.length->j∉l->iE g j=0):
  aC EN 98 [.c (.ptr sb 0),.c mtv,.c iv] σ λr σ'=>∃v,Ql σ σ' r g.e.length v/\Nn g.e.length v/\(∀j,j<g.e.length->v j=mv g.e.length (gM g.e.length (aZ g) x) v j+iE g j)/\(∀j,j∉l->v j=0)/\Fe g.e.length qK v/\Fr σ σ':=by
 refine aO (lU.o _ _) lU.h ?_
 unfold lU
 dsimp only
 have hn8:=h.n
 have hll:=Tc hnd hln
 obtain⟨m1,m2,m3⟩:=h.mz hx0
 have k3:=hM.kn
 have k4:=hl.kn
 have hle0:=hl.len
 have hlM:=hM.len
 have hFr:=Fr.refl hW
 have hng:=λ(args:List V) (σ:St) (K:V->St->Prop)=>iL (E:=EN) (K:=K) (fH.o args σ) fH.h
 unfold fH at hng
 dsimp only at hng
 by_cases hl0:l.length=0
 .have e0:l=[]:=gh.mp hl0
  subst e0
  have hle0:lenV (.c iv)=some (.c (.int .i64 (.ofNat 0))):=hle0
  simp(disch:=try exact jz) only[go_sem,z3,hle0,gP,hlM]
  refine⟨λ_=>0,⟨σ.aj,rfl,aA _ _ _,jp,cg _⟩,λ_ _=>bo,λj hj=>?_,λ_ _=>rfl,⟨1,jj,ie,λi _=>⟨0,show(0:Rat)=((0:Int):Rat)/((1:Nat):Rat) by decide+kernel,bp _⟩⟩,fr⟩
  grind[mv,bD]
 .have e1:decide (l.length=0)=false:=az hl0
  have hs':=hs
  obtain⟨⟨ev,gv,lv,bv,hsb,hg,⟨R,P,hL1,hL2⟩,hB⟩,hsl⟩:=hs
  have hsl:sb<σ.aj:=hsl
  have hek:=hg.e.kn
  simp(disch:=try exact jz) only[go_sem,z3,hle0,e1]
  refine bK.mono (Q:=λex tm σ4=>ex=.exit 0/\Tr.ah tm 1=.c mtv/\Tr.ah tm 2=.c iv/\Tr.ah tm 7=.c (.sl σ.aj 0 l.length (.ex l.length))/\σ4.h σ.aj=some ⟨cO l.length (λa=>-iE g (at0 l a)),none⟩/\Fr σ σ4/\σ.aj+1<=σ4.aj)
   (aF (λq tm σ4=>∃k,q=l.length-k/\k<=l.length/\Tr.ah tm 0=.c (.ptr sb 0)/\Tr.ah tm 1=.c mtv/\Tr.ah tm 2=.c iv/\Tr.ah tm 7=.c (.sl σ.aj 0 l.length (.ex l.length))/\Tr.ah tm 21=.c iv/\Tr.ah tm 22=.c (.int .i64 (.ofNat l.length))/\Tr.ah tm 23=.c (.int .i64 (.ofNat k))
    /\σ4.h σ.aj=some ⟨cO l.length (λa=>if a<k then-iE g (at0 l a)else 0),none⟩/\Fr σ σ4/\σ.aj+1<=σ4.aj) l.length ?_ ?_) ?_
  .refine⟨0,jb,jb,?_⟩
   simp(disch:=try exact jz) only[go_sem,z3,am]
   exact⟨by rfl,fr,jp⟩
  .rintro q tm σ4 ⟨k,rfl,hk,t0,t1,t2,t7,t21,t22,t23,q7,hf,hnx⟩
   have Cc:=Fr.refl hf.wf
   simp(disch:=try exact jz) only[go_sem,z3,t0,t1,t2,t7,t21,t22,t23,aG]
   refine aH (λhlt=>?_) (λhlt=>?_)
   .obtain⟨bi,oi,ci,ei,Qy⟩:=hl.one jb
    have Qy:=hf.ld hW (Qy k hlt)
    have ai:V.c (.sl bi oi l.length ci)=V.c iv:=by rw[ei]
    rw[ei]at t21
    have hin:=hln _ (iM hlt)
    have ajz:=hf.get hW hsb
    obtain⟨b5,o5,c5,rfl,C1,A1,bP,-,hC,hA1⟩:=hg.e.at hin
    have bP:=hf.ld hW bP
    have Vg:=aY.kn hC
    have hAk:=hA1.kn
    have hw:=pG (h.m _ hin).1
    have hst:=oZ l.length k (λa=>-iE g (at0 l a))
    have ld3:=AY bP 3 true jj jj
    have hl7:=hf.wf.lt q7
    have hrq:rq (ix g.e (at0 l k)).m.n (ix g.e (at0 l k)).m.s (ix g.e (at0 l k)).m.d=iE g (at0 l k):=rfl
    have hcp:=(h.m _ hin).2
    have hcs:iE g (at0 l k)=(ix g.e (at0 l k)).m.q:=rfl
    have zq:Sz (iE g (at0 l k)):=by rw[hcs];exact(Fg (b:=6) jj jj hcp.1 (by have:=hcp.2.1;grind) (by have:=hcp.2.2;grind)).sz jj
    simp(disch:=try exact jz) only[go_sem,z3,t0,t1,t2,t7,t21,t22,t23,Qy,ak ajz,ld3,hng,WW,hrq,q7,aI q7,hek,hst]
    exact⟨l.length-(k+1),jb,k+1,rfl,jb,ai,rfl,rfl,fr,jb⟩
   .have:k=l.length:=jb
    subst this
    simp(disch:=try exact jz) only[go_sem,z3,am]
    refine⟨t1,t2,t7,?_,hf,hnx⟩
    rw[q7,wQ]
  .rintro _ tm σ4 ⟨rfl,t1,t2,t7,q7,hf4,hn4⟩
   have uo:=hf4.le
   simp(disch:=try exact jz) only[go_sem,z3,t1,t2,t7]
   refine(apu hf4.wf (hM.fr hW hf4) m1 m2 (hl.fr hW hf4) jb hln).mono ?_
   rintro _ σ5 ⟨⟨mb,bs,rfl,hmb,Yn⟩,hf5⟩
   have gU:=hf4.trans hf5
   have q75:=hf5.get hf4.wf q7
   have ayL:=Yn.b
   have ayM:=Yn.l
   obtain⟨Q,b,Q1,Q2,Q3,Q4⟩:=atz h hx0 hln
   have hex:=apy (n:=l.length) jb Q3
   have hqK:=FP
   have hinj:=afB (h.sub hx0) hnd hln hcl hno (B:=oq (gM g.e.length (aZ g) x) l) (s:=λ_=>1) (λ_ _=>jj) λi j _ _=>(gO _).symm
   simp(disch:=try exact jz) only[go_sem,z3,t1,t2,t7]
   refine(aou hf5.wf (Yn.hr (p:=λ_=>True) λ_ _=>trivial) (bf (G:=λa=>gy (-iE g (at0 l a))) (p:=λ_=>True) _ q75 rfl trivial (λ_=>rfl) jj λ_ _=>rfl) jb jb Q1 Q2 Q4 jb hinj).mono ?_
   rintro _ σ6 ⟨⟨nb,W,p,rfl,hnb,g1,g2,hIZ,hdi,hp0,hso⟩,iw⟩
   have lK:=gU.trans iw
   simp(disch:=try exact jz) only[go_sem,z3,t1,t2,hlM]
   refine(YD (p:=λ_=>True) iw.wf (hl.fr hW lK) (bf (G:=λc=>gy (W c l.length/W c c)) _ hnb rfl trivial (λ_=>rfl) jj λ_ _=>rfl) jb jb hln).mono ?_
   rintro _ σ7 ⟨⟨rb,rfl,hr1,hr2,hr3⟩,oC⟩
   rw[adq hnd]at hr1
   have Aj:=lK.le
   have hv:=akk (M:=gM g.e.length (aZ g) x) (l:=l) (B:=oz l.length (oq (gM g.e.length (aZ g) x) l) λa=>-iE g (at0 l a)) (s:=λ_=>1) (v:=λi=>W i l.length/W i i) (c:=iE g) (λ_ _=>jj) (λi j _ hj=>by unfold oz;rw[ab hj,gO]) (λi _=>by unfold oz;rw[ae jb,gO]) λi hi=>by have e:oz l.length (oq (gM g.e.length (aZ g) x) l) (λa=>-iE g (at0 l a)) i l.length=-iE g (at0 l i):=ae jb;rw[e,<-hso i hi];exact aJ λj hj=>by unfold oz;rw[ab hj]
   have hcn:∀j,j<g.e.length->0<=iE g j:=λj hj=>(h.m j hj).2.2.1
   have hvz:Fe g.e.length qK (qw l λi=>W i l.length/W i i):=by obtain⟨Q',q1,q2,q3⟩:=awK (n:=g.e.length) (l:=l) hIZ hdi hp0 jb rfl hnd;exact⟨Q',q1,aw q2 (yU hex),λi hi=>by obtain⟨z,ez,hz⟩:=q3 i hi;exact⟨z,ez,aw hz (yU hex)⟩⟩
   simp(disch:=try exact jz) only[go_sem,z3,am]
   exact⟨_,⟨rb,rfl,hr1,jb,hr3⟩,anT (h.sub hx0) hnd hln hcl hno hcn hc0 hv,IU hnd hln hcl hc0 hv,λj hj=>uJ hj,hvz,lK.trans oC⟩
end Go.Proofs.Xe
