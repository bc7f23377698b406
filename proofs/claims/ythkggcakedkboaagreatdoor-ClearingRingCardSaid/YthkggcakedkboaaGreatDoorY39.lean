import Derived.Test.YthkggcakedkboaaGreatDoorY38
set_option linter.all false
set_option maxRecDepth 100000
set_option maxHeartbeats 8000000
namespace Go.Proofs.Xe
open Go.RowKit Go.Proofs.Ins
def ng(n:Nat)(A:Nat->Nat->Rat)(bv:Nat->Rat)(i k:Nat):Rat:=if k<n then A i k else bv i
def ait{n:Nat}{A:Nat->Nat->Rat}{bv:Nat->Rat}{i:Nat}:bU (n+1) (aT (A i) n (bv i))=bU (n+1) (ng n A bv i):=dI λk hk=>by grind[aT,ng]
def adP(m:Nat)(ws:Nat->Nat)(i k:Nat):B:=if k<i then .sl (ws k) 0 m (.ex m)else .bg
def aiu{n m i b:Nat}{ws:Nat->Nat}:ones n (aT (adP m ws i) i (.sl b 0 m (.ex m)))=ones n (adP m (aT ws i b) (i+1)):=dQ λk _=>by grind[aT,adP]
def EC(n:Nat)(A:Nat->Nat->Rat)(bv:Nat->Rat)(i k:Nat):Bool:=rn (ng n A bv i k)
def Cc(n:Nat)(A:Nat->Nat->Rat)(bv:Nat->Rat)(cc:Nat->Nat)(i k:Nat):Nat:=(ng n A bv i k).num.natAbs*(cc i/(ng n A bv i k).den)
structure aiv(n:Nat)(A:Nat->Nat->Rat)(bv:Nat->Rat)(Q:Nat)(h:Tr Bk)(ws cc:Nat->Nat)(i lo hi:Nat):Prop where
 r:∀k,k<i->h (ws k)=some ⟨NU (n+1) (EC n A bv k) (Cc n A bv cc k),none⟩/\lo<=ws k/\ws k<hi
 inj:∀k l,k<i->l<i->ws k=ws l->k=l
 c:∀k,k<i->0<cc k/\cc k∣Q/\∀j,j<n+1->(ng n A bv k j).den∣cc k
def aiv.up{n:Nat}{A:Nat->Nat->Rat}{bv:Nat->Rat}{Q:Nat}{h h':Tr Bk}{ws cc:Nat->Nat}{i lo hi hi' nb c:Nat}(hR:aiv n A bv Q h ws cc i lo hi)(hk:∀b,lo<=b->b<hi->h' b=h b)(hl:lo<=hi)(h1:h' nb=some ⟨NU (n+1) (λk=>rn (ng n A bv i k)) (λk=>(ng n A bv i k).num.natAbs*(c/(ng n A bv i k).den)),none⟩)(h2:hi<=nb)(h3:nb<hi')(hc:0<c)(hcQ:c∣Q)(hcd:∀j,j<n+1->(ng n A bv i j).den∣c):aiv n A bv Q h' (aT ws i nb) (aT cc i c) (i+1) lo hi':=by
 refine⟨λk hk1=>?_,λk l hk1 hl1 e=>?_,λk hk1=>?_⟩
 .by_cases e:k=i
  .subst e;rw[aS];refine⟨?_,jb,h3⟩;rw[h1];congr 2;refine yQ λj _=>⟨rfl,?_⟩
   unfold Cc;rw[aS]
  .obtain⟨k1,k2,k3⟩:=hR.r k jb;grind[Go.Proofs.Xe.aW,Go.Proofs.Xe.yQ,Go.Proofs.Xe.Cc]
 .by_cases e1:k=i<;>by_cases e2:l=i
  .omega
  .exfalso;rw[e1,aS,aW _ _ _ _ e2]at e;have:=(hR.r l jb).2.2;omega
  .exfalso;rw[e2,aS,aW _ _ _ _ e1]at e;have:=(hR.r k jb).2.2;omega
  .rw[aW _ _ _ _ e1,aW _ _ _ _ e2]at e;exact hR.inj k l jb jb e
 .by_cases e:k=i
  .grind[aS]
  .rw[aW _ _ _ _ e];exact hR.c k jb
def Xb(n:Nat)(A:Nat->Nat->Rat)(bv:Nat->Rat)(B:Nat->Nat->Rat):Prop:=
 (∀z:Nat->Rat,(∀i,i<n->aA n (λl=>B i l*z l)=B i n)->∀i,i<n->aA n (λl=>A i l*z l)=bv i)/\∀z:Nat->Rat,(∀i,i<n->aA n (λj=>B i j*z j)=0)->∀j,j<n->z j=0
def Xb.swap{n:Nat}{A B:Nat->Nat->Rat}{bv:Nat->Rat}(h:Xb n A bv B){r p:Nat}(hr:r<n)(hp:p<n):Xb n A bv λi=>B (swp r p i):=by
 refine⟨λz hz=>h.1 z λi hi=>?_,λz hz=>h.2 z λi hi=>?_⟩
 .have:=hz _ (nK hr hp hi);grind[JX]
 .have:=hz _ (nK hr hp hi);grind[JX]
def Xb.start{n:Nat}{A B:Nat->Nat->Rat}{bv:Nat->Rat}{c:Nat->Rat}(hc:∀i,i<n->c i≠0)(hB:∀i k,i<n->k<n+1->B i k=c i*ng n A bv i k)(hinj:∀z:Nat->Rat,(∀i,i<n->aA n (λj=>A i j*z j)=0)->∀j,j<n->z j=0):Xb n A bv B:=by
 have e:∀(z:Nat->Rat) i,i<n->aA n (λl=>B i l*z l)=c i*aA n λl=>A i l*z l:=λz i hi=>by rw[<-fM];grind[Go.Proofs.Ins.aK,Go.Proofs.Xe.ng]
 have cz:∀i,i<n->∀y:Rat,c i*y=0->y=0:=λi hi y h=>by grind
 refine⟨λz hz i hi=>?_,λz hz=>hinj z λi hi=>?_⟩
 .have h1:=hz i hi;rw[e z i hi,hB i n hi jb]at h1;grind[ng]
 .have h1:=hz i hi;rw[e z i hi]at h1;grind
def Jl.u{n a:Nat}{S:Nat->Nat->Bool}{U:Nat->Nat->Nat}(h:Jl n a (iI S U)){i j:Nat}(hi:i<n)(hj:j<n+1):U i j<=2^a:=by obtain⟨z,ez,hz⟩:=h i j hi jb;unfold iI at ez;have:=bM Int.natAbs (eC.mp ez);grind[xU]
def aiw(r p i:Nat):swp r p i=swp p r i:=by grind[swp]
def aqm{b n k:Nat}(h:k<n):QX 1 (.c (.sl b 0 n (.ex n))) (some (.c (.int .i64 (.ofNat k)))) none none=some (.c (.sl b (k*1) (n-k) (.ex (n-k)))):=by grind[QX,QW,IK,uj,DY]
def alT{σ:St}(hW:WF σ){p p':Nat->Prop}{v w:B}{n:Nat}{A:Nat->Nat->Rat}{bv:Nat->Rat}(hA:dN p σ.h v n (λ_=>n) A)(hb:jB p' σ.h w n bv)(hn:0<n)(hn2:n<=16){Q b:Nat}(hQ:0<Q)(hQb:Q<=2^b)(hz:∀i k,i<n->k<n+1->∃z:Int,ng n A bv i k=(z:Rat)/(Q:Rat)/\z.natAbs<=2^b)(hb2:Jj b n<=20000000)
  (hinj:∀z:Nat->Rat,(∀i,i<n->aA n (λj=>A i j*z j)=0)->∀j,j<n->z j=0):
  aC EN 113 [.c v,.c w] σ λr σ'=>(∃nb W p,r=.aV (.c (.sl nb 0 n (.ex n))) (.aV (.c (.int .i64 (.ofNat 0))) .tnil)/\σ'.h nb=some ⟨bU n (λi=>W i n/W i i),none⟩/\σ.aj<=nb/\nb<σ'.aj/\Jl n (Jj b n) W/\(∀i,i<n->W i i=p)/\p≠0/\∀i,i<n->aA n (λl=>A i l*(W l n/W l l))=bv i)/\Fr σ σ':=by
 refine aN (vS.o _ _) vS.h ?_
 unfold vS
 dsimp only
 have hlen:=hA.len
 have hlw:=aZ.len hb
 obtain⟨b6,o6,c6,T,rfl,-,bJ,hT⟩:=hA.at hn
 have tK:ld σ.h b6 (o6+0*1) 1 false=some (.c T):=bJ
 have hlT:=aZ.len hT
 have hxa:=ah5 b n
 have hzs:∀i k,i<n->k<n->Sz (A i k):=λi k hi hk=>by obtain⟨z,ez,hz1⟩:=hz i k hi jb;have e:ng n A bv i k=A i k:=ae hk;rw[e]at ez;exact(show kG b (A i k)from⟨z,Q,hQ,hQb,hz1,ez⟩).sz jb
 have hzg:∀i k,i<n->k<n+1->Sz (ng n A bv i k):=λi k hi hk=>by obtain⟨z,ez,hz1⟩:=hz i k hi hk;exact(show kG b (ng n A bv i k)from⟨z,Q,hQ,hQb,hz1,ez⟩).sz jb
 have hsq:=λ(args:List V) (σ:St) (K:V->St->Prop)=>jS (E:=EN) (K:=K) (tH.o args σ) tH.h
 unfold tH at hsq
 dsimp only at hsq
 simp(disch:=try exact jz) only[go_sem,z3,hsq]
 refine(WS hW hA hn hn2 hn hn2).mono ?_
 rintro _ σ1 ⟨rfl,hf1⟩
 have tK:=hf1.ld hW tK
 have ac3:=Fr.refl hf1.wf
 simp(disch:=try exact jz) only[go_sem,z3,ofNat_eq,hlen,hlT,tK,hlw,gb]
 refine aC.st (Fr σ1) (fr) λhF=>?_
 have hF1:=hf1.trans hF
 refine(NR hF.wf (hA.fr hW hF1) hn2 hn jb hzs).mono ?_
 rintro _ σ2 ⟨⟨mb,bs,rfl,hmb,hM⟩,hf2⟩
 have hw0:σ2.h σ1.aj=some ⟨ones n λ_=>.bg,none⟩:=hf2.get hF.wf (aB _ _ _)
 have hmb:σ1.aj+1<=mb:=hmb
 have hF2:=hF1.trans hf2
 have hb0:=hM.b
 have hl0:=hM.l
 simp(disch:=try exact jz) only[go_sem,z3,ap]
 refine bK.mono (Q:=λex tm σ4=>ex=.exit 0/\∃ws cc,Tr.ah tm 7=.c (.int .i64 (.ofNat n))/\Tr.ah tm 8=.c (.sl σ1.aj 0 n (.ex n))/\σ4.h σ1.aj=some ⟨ones n (adP (n+1) ws n),none⟩/\aiv n A bv Q σ4.h ws cc n σ2.aj σ4.aj/\Fr σ σ4/\σ2.aj<=σ4.aj)
  (aF (λx tm σ4=>∃i ws cc,x=n-i/\i<=n/\Tr.ah tm 1=.c w/\Tr.ah tm 7=.c (.int .i64 (.ofNat n))/\Tr.ah tm 8=.c (.sl σ1.aj 0 n (.ex n))/\Tr.ah tm 31=.c (.sl mb 0 n (.ex n))/\Tr.ah tm 32=.c (.int .i64 (.ofNat n))/\Tr.ah tm 33=.c (.int .i64 (.ofNat i))
   /\σ4.h σ1.aj=some ⟨ones n (adP (n+1) ws i),none⟩/\aiv n A bv Q σ4.h ws cc i σ2.aj σ4.aj/\σ4.h mb=some ⟨ones n λi=>.sl (bs i) 0 n .opn,none⟩/\(∀k,i<=k->k<n->σ4.h (bs k)=some ⟨bU n (A k),some (3,42)⟩)/\Fr σ σ4/\σ2.aj<=σ4.aj) n ?_ ?_) ?_
 .refine⟨0,λ_=>0,λ_=>0,jb,jb,?_⟩
  simp(disch:=try exact jz) only[go_sem,z3,ap]
  exact⟨hw0.trans (bM (λl=>some (Bk.mk l none)) (dQ λk _=>by unfold adP;rw[ab jb])),⟨λk h=>absurd h jb,λk l h=>absurd h jb,λk h=>absurd h jb⟩,hM.o,λk _ hk=>(hM.r k hk).1,hF2,jp⟩
 .rintro x tm σ4 ⟨i,ws,cc,rfl,hi1,t1,t7,t8,t31,t32,t33,q8,hR,qm,hrest,hf4,hn4⟩
  simp(disch:=try exact jz) only[go_sem,z3,t1,t7,t8,t31,t32,t33,aH]
  refine aJ (λhlt=>?_) (λhlt=>?_)
  .have qr:=hrest i jp hlt
   obtain⟨-,g1,g2⟩:=hM.r i hlt
   obtain⟨b7,o7,c7,e7,-,dh⟩:=aZ.at3 hb hlt
   have atn:=hW.dw dh
   have hle1:=hf1.le
   have dh:=hf4.ld hW dh
   have a7:V.c (.sl b7 o7 n c7)=V.c w:=by rw[e7]
   rw[e7]at t1
   have hl8:=hf4.wf.lt q8
   have hlr:=hf4.wf.lt qr
   have hFe:=aP.refl (ex:=[bs i]) hf4.wf
   have h5:=afy n (A i)
   have hag:=ait (n:=n) (A:=A) (bv:=bv) (i:=i)
   simp(disch:=try exact jz) only[go_sem,z3,t1,t7,t8,t31,t32,t33,ak qm,qm,ak qr,qr,dh,hag]
   refine aC.st (aP [bs i] σ4) (by repeat(first|assumption|exact aP.refl (by assumption)|exact aP.up (by assumption) kf|exact aP.up (aP.refl (by assumption)) kf|refine aP.set1 ?_ kg kf|refine aP.jV ?_ kg|refine aP.mG ?_ kg|refine aP.nG ?_ kf)) λgZ=>?_
   have qr5:(hset (hset (hdel (hset σ4.h σ4.aj ⟨[.bool (rn (bv i)),.str (rs (bv i)),.str (rd (bv i))],none⟩) (bs i)) (σ4.aj+1) ⟨bU (n+1) (ng n A bv i),some (3,42)⟩) (σ4.aj+1+1) ⟨[.sl (σ4.aj+1) 0 (n+1) .opn],none⟩) (σ4.aj+1)=some ⟨bU (n+1) (ng n A bv i),some (3,42)⟩:=(au _ _ _ _ jb).trans (aB _ _ _)
   have HR5:dN (λ_=>True) (hset (hset (hdel (hset σ4.h σ4.aj ⟨[.bool (rn (bv i)),.str (rs (bv i)),.str (rd (bv i))],none⟩) (bs i)) (σ4.aj+1) ⟨bU (n+1) (ng n A bv i),some (3,42)⟩) (σ4.aj+1+1) ⟨[.sl (σ4.aj+1) 0 (n+1) .opn],none⟩) (.sl (σ4.aj+1+1) 0 1 (.ex 1)) 1 (λ_=>n+1) λ_=>ng n A bv i:=
    ⟨λ_=>.sl (σ4.aj+1) 0 (n+1) .opn,bf (n:=1) (G:=λ_=>[.sl (σ4.aj+1) 0 (n+1) .opn]) _ (aB _ _ _) rfl trivial (λ_=>rfl) jj (λ_ _=>rfl),λj _=>bf (G:=λc=>gK (ng n A bv i c)) _ qr5 (DZ _ _ jj) trivial (λ_=>rfl) jj λ_ _=>rfl⟩
   refine(NR gZ.wf HR5 jj jb jb λ_ k _ hk=>hzg i k hlt hk).mono ?_
   rintro _ σ6 ⟨⟨m2,b2,rfl,hm2,hM2⟩,gX⟩
   have qm2:=hM2.o
   have qr2:=(hM2.r 0 jj).1
   have yI:σ4.aj+1+1+1<=σ6.aj:=gX.le
   simp(disch:=try exact jz) only[go_sem,z3,t1,t7,t8,t31,t32,t33,ak qm2,qm2]
   refine(Zu (p:=λ_=>True) gX.wf (bf (G:=λc=>gK (ng n A bv i c)) _ qr2 (DZ _ _ jj) trivial (λ_=>rfl) jj λ_ _=>rfl) jb hQ hQb jb λk hk=>hz i k hlt hk).mono ?_
   rintro _ σ7 ⟨⟨nb,c,rfl,hnb,g3,g4,hc,hcQ,hcd⟩,oI⟩
   have aqn:=gX.trans oI
   have qG:aP [bs i] σ4 σ7:=gZ.to' (ex:=[]) ⟨aqn.le,aqn.wf,λb hb _=>aqn.old b hb⟩ kc
   have ak7:=qG.le
   have q87:=qG.get hf4.wf (by simp;omega) q8
   have qm7:=qG.get hf4.wf (by simp;omega) qm
   have hst:=aiu (n:=n) (m:=n+1) (i:=i) (b:=nb) (ws:=ws)
   simp(disch:=try exact jz) only[go_sem,z3,t1,t7,t8,t31,t32,t33,q87,aI q87,hst]
   refine⟨n-(i+1),jb,i+1,aT ws i nb,aT cc i c,rfl,jb,a7,rfl,rfl,hR.up (λb h1 h2=>(au _ _ _ _ jb).trans (qG.old b h2 (by simp;omega))) hn4 ((au _ _ _ _ jb).trans hnb) jb g4 hc hcQ hcd,qm7,λk h1 h2=>?_,?_,jb⟩
   .obtain⟨-,k1,k2⟩:=hM.r k h2
    have hne:bs k≠bs i:=λe=>by have:=hM.inj k i h2 hlt e;omega
    exact(au _ _ _ _ jb).trans (qG.get hf4.wf (by simpa using hne) (hrest k jb h2))
   .have JG:=aP.to hf4 qG (λb hb=>by simp at hb;omega)
    exact fr
  .have:i=n:=jb
   subst this
   simp(disch:=try exact jz) only[go_sem,z3,ap]
   exact⟨ws,cc,t7,t8,q8,hR,hf4,hn4⟩
 .rintro _ tm4 σ4 ⟨rfl,ws,cc,t7,t8,q8,hR,hf4,hn4⟩
  have yH:=hf4.le
  have hle1:=hf1.le
  have hM4:xW σ4.h σ1.aj n (n+1) (EC n A bv) (Cc n A bv cc) ws σ2.aj σ4.aj:=⟨by rw[q8];exact bM (λl=>some (Bk.mk l none)) (dQ λk hk=>ae hk),hR.r,hR.inj,jb,hn4⟩
  have hval:∀i k,i<n->k<n+1->iI (EC n A bv) (Cc n A bv cc) i k=(cc i:Rat)*ng n A bv i k:=λi k hi hk=>aqf _ ((hR.c i hi).2.2 k hk)
  have hI4:Jl n b (iI (EC n A bv) (Cc n A bv cc)):=λi k hi hk=>by
   obtain⟨z,ez,hz1⟩:=hz i k hi jb;obtain⟨c1,c2,c3⟩:=hR.c i hi;refine⟨iv (EC n A bv i k) (Cc n A bv cc i k),rfl,?_⟩;have h1:=hval i k hi jb;obtain⟨d,hd⟩:=c2;have hc0:=gY c1;have hd0:0<d:=eJ λe=>by rw[e]at hd;omega
   have hdr:=gY hd0;have h2:((iv (EC n A bv i k) (Cc n A bv cc i k)*(d:Int):Int):Rat)=((z:Int):Rat):=by
    rw[cP];have e1:((iv (EC n A bv i k) (Cc n A bv cc i k):Int):Rat)=iI (EC n A bv) (Cc n A bv cc) i k:=rfl;have e2:((d:Int):Rat)=(d:Rat):=rfl;have e3:(Q:Rat)=(cc i:Rat)*(d:Rat):=by rw[hd,eA]
    rw[e1,e2,h1,ez,e3];grind
   have h3:=bM Int.natAbs (eC.mp h2);rw[eO,gA]at h3;have h4:(iv (EC n A bv i k) (Cc n A bv cc i k)).natAbs<=(iv (EC n A bv i k) (Cc n A bv cc i k)).natAbs*d:=gp _ hd0;omega
  have hS4:Xb n A bv (iI (EC n A bv) (Cc n A bv cc)):=Xb.start (c:=λi=>(cc i:Rat)) (λi hi=>gY (hR.c i hi).1) hval hinj
  have hB4:Bar n 0 (iI (EC n A bv) (Cc n A bv cc)) (iI (EC n A bv) (Cc n A bv cc)) ((iv false 1:Int):Rat):=adH λi j _ _=>⟨_,rfl⟩
  clear hR hval
  have Em:=Fr.refl hf4.wf
  have awM:=aP.refl (ex:=[]) hf4.wf
  simp(disch:=try exact jz) only[go_sem,z3,t7,t8]
  refine bK.mono (Q:=λex tm σ5=>ex=.exit 2/\∃S U bs p,Tr.ah tm 7=.c (.int .i64 (.ofNat n))/\Tr.ah tm 8=.c (.sl σ1.aj 0 n (.ex n))/\xW σ5.h σ1.aj n (n+1) S U bs σ2.aj σ4.aj/\Jl n (Jj b n) (iI S U)/\(∀i,i<n->iI S U i i=p)/\p≠0/\(∀i,i<n->aA n (λl=>A i l*(iI S U l n/iI S U l l))=bv i)/\Fr σ σ5/\σ4.aj<=σ5.aj)
   (aF (λx tm σ5=>∃k S U bs t v B,x=n-k/\k<=n/\Tr.ah tm 7=.c (.int .i64 (.ofNat n))/\Tr.ah tm 8=.c (.sl σ1.aj 0 n (.ex n))/\Tr.ah tm 11=.c (.ptr σ4.aj 0)/\Tr.ah tm 56=.c (.int .i64 (.ofNat n))/\Tr.ah tm 57=.c (.int .i64 (.ofNat k))
    /\σ5.h σ4.aj=some ⟨[.bool t,.str (bn v)],none⟩/\xW σ5.h σ1.aj n (n+1) S U bs σ2.aj σ4.aj/\Bar n k B (iI S U) ((iv t v:Int):Rat)/\Jl n (Jj b k) (iI S U)/\v<=2^Jj b k/\Xb n A bv B/\Fr σ σ5/\σ4.aj+1<=σ5.aj) n ?_ ?_) ?_
  .refine⟨0,EC n A bv,Cc n A bv cc,ws,false,1,iI (EC n A bv) (Cc n A bv cc),jb,jb,?_⟩
   simp(disch:=try exact jz) only[go_sem,z3,ap,t7,t8]
   exact⟨hM4.keep λb hb=>by rw[au _ _ _ _ jb,au _ _ _ _ jb],hB4,hI4,gz,hS4,fr,jp⟩
  .rintro x tm5 σ5 ⟨k,S,U,bs,t,v,B,rfl,hk,t7,t8,t11,t56,t57,q11,Wu,hB5,hI5,hv5,hS5,hf5,hn5⟩
   simp(disch:=try exact jz) only[go_sem,z3,t7,t8,t11,t56,t57,aH]
   refine aJ (λhlt=>?_) (λhlt=>?_)
   .have En:=Fr.refl hf5.wf
    have hsl:=aqm (b:=σ1.aj) hlt
    have hxk:=yP b (show k+1<=n by omega)
    have awO:Jj b (k+1)=2*Jj b k+1:=rfl
    simp(disch:=try exact jz) only[go_sem,z3,t7,t8,t11,t56,t57,hsl]
    refine aC.st (Fr σ5) (fr) λkH=>?_
    have hb5:=Wu.b
    have hl5:=Wu.l
    obtain⟨i0,j1,j2,j3⟩:=hB5.pivot hlt hS5.2
    refine(aqj kH.wf (Wu.keep λb hb=>kH.old b jb) hn2 jb hlt jb (aB _ _ _) ⟨i0,j1,j2,λe=>j3 (by unfold iI;rw[(ah6 _).mpr e];rfl)⟩).mono ?_
    rintro _ σ7 ⟨⟨a,rfl,ha,hUa⟩,oI⟩
    have qG:=kH.trans oI
    have ak7:=qG.le
    have avZ:σ5.aj+1<=σ7.aj:=oI.le
    have hM7:xW σ7.h σ1.aj n (n+1) S U bs σ2.aj σ4.aj:=Wu.keep λb hb=>qG.old b jb
    have ahx:=qG.get hf5.wf q11
    have qk7:σ7.h σ5.aj=some ⟨[.int .i64 (.ofNat k)],none⟩:=oI.get kH.wf (aB _ _ _)
    have q0:=hM7.o
    have hst:=abg (n:=n) (r:=k+a) (p:=k) (f:=λi=>.sl (bs i) 0 (n+1) (.ex (n+1)))
    simp only[aiw (k+a) k]at hst
    have awP:=aP.refl (ex:=[σ1.aj]) oI.wf
    simp(disch:=try exact jz) only[go_sem,z3,t7,t8,t11,t56,t57,adJ,ak q0,q0,aI q0,ak qk7,qk7,ak ahx,ahx,hst]
    refine aC.st (aP [σ1.aj] σ7) (by repeat(first|assumption|exact aP.refl (by assumption)|exact aP.up (by assumption) kf|exact aP.up (aP.refl (by assumption)) kf|refine aP.set1 ?_ kg kf|refine aP.jV ?_ kg|refine aP.mG ?_ kg|refine aP.nG ?_ kf)) λJG=>?_
    have hM8:=hM7.swap (h':=hset (hset σ7.h σ1.aj ⟨ones n (aT (λi=>Xe.B.sl (bs i) 0 (n+1) (.ex (n+1))) k (.sl (bs (k+a)) 0 (n+1) (.ex (n+1)))),none⟩) σ1.aj ⟨ones n λi=>.sl (bs (swp k (k+a) i)) 0 (n+1) (.ex (n+1)),none⟩) hlt ha (aB _ _ _) λb h1 h2=>(au _ _ _ _ jb).trans (au _ _ _ _ jb)
    have hBs:=hB5.swap hlt (Nat.le_add_right k a) ha
    have eW:(λi=>iI S U (swp k (k+a) i))=iI (λi=>S (swp k (k+a) i)) (λi=>U (swp k (k+a) i)):=rfl
    rw[eW]at hBs
    have hIs:Jl n (Jj b k) (iI (λi=>S (swp k (k+a) i)) (λi=>U (swp k (k+a) i))):=λi j hi hj=>hI5 _ j (nK hlt ha hi) hj
    have esw:swp k (k+a) k=k+a:=by unfold swp;rw[ae rfl]
    have h0k:iI (λi=>S (swp k (k+a) i)) (λi=>U (swp k (k+a) i)) k k≠0:=by show((iv (S (swp k (k+a) k) k) (U (swp k (k+a) k) k):Int):Rat)≠0;rw[esw];exact λe=>hUa ((ah6 _).mp (eC.mp (show((iv (S (k+a) k) (U (k+a) k):Int):Rat)=((0:Int):Rat)from e)))
    have hBn:=hBs.step hlt h0k
    have hZn:=(hBn.isZ jb).2
    have hIn:=hIs.step hlt (hBs.isZ jb).1 hBs.p0 hZn
    have hv0:v≠0:=λe=>hB5.p0 (by rw[e,(ah6 t).mpr rfl];rfl)
    refine(WW JG.wf hM8 (by show σ4.aj<=σ7.aj;omega) hn2 jb hlt jb hv0 (λi j hi hj=>hIs.u hi hj) hv5 jb λi j hi hj=>hZn i j hi jb).mono ?_
    rintro _ σ9 ⟨⟨S',U',hM9,hval⟩,hK9⟩
    have avf:σ7.aj<=σ9.aj:=hK9.le
    have Jh:=hK9.get JG.wf ((au _ _ _ _ jb).trans ((au _ _ _ _ jb).trans ahx)) (.inr jp)
    have qk9:=hK9.get JG.wf ((au _ _ _ _ jb).trans ((au _ _ _ _ jb).trans qk7)) (.inr jb)
    have q09:=hM9.o
    have qr9:=(hM9.r k hlt).1
    have awQ:=hM9.r k hlt
    simp(disch:=try exact jz) only[go_sem,z3,t7,t8,t11,t56,t57,ak q09,q09,ak qk9,qk9,ak qr9,qr9,ak Jh,Jh,aI Jh]
    have ep:((iv (S' k k) (U' k k):Int):Rat)=iI (λi=>S (swp k (k+a) i)) (λi=>U (swp k (k+a) i)) k k:=(hval k k hlt jb).trans (ae rfl)
    have hI9:Jl n (Jj b (k+1)) (iI S' U'):=λi j hi hj=>by obtain⟨z,ez,hz1⟩:=hIn i j hi hj;exact⟨z,(hval i j hi jb).trans ez,hz1⟩
    have yJ:=hf5.le
    have BO:=ni.fr (aP.to (hf5.trans qG) JG λb hb=>by simp at hb;omega) hK9 jb
    refine⟨n-(k+1),jb,k+1,S',U',_,_,_,_,rfl,jb,rfl,rfl,hM9.keep λb hb=>au _ _ _ _ jb,?_,hI9,hI9.u hlt jb,hS5.swap hlt ha,fr,jb⟩
    rw[ep]
    exact Bar.aqi hBn jb λi j hi hj=>(hval i j hi jb).symm
   .have:k=n:=jb
    subst this
    simp(disch:=try exact jz) only[go_sem,z3,ap]
    exact⟨S,U,bs,_,t7,t8,Wu,hI5,Bar.diag hB5,hB5.p0,λi hi=>hS5.1 (λl=>iI S U l k/iI S U l l) (hB5.done).2 i hi,hf5,jb⟩
  .rintro _ tm5 σ5 ⟨rfl,S,U,bs,p,t7,t8,Wu,hI5,hd5,hp5,hs5,hf5,hn5⟩
   have hlen5:lenV (.c (.sl σ1.aj 0 n (.ex n)))=some (.c (.int .i64 (.ofNat n))):=rfl
   have En:=Fr.refl hf5.wf
   have hb5:=Wu.b
   have hl5:=Wu.l
   simp(disch:=try exact jz) only[go_sem,z3,t7,t8]
   refine aF (λx tm σ6=>∃i,x=n-i/\i<=n/\Tr.ah tm 7=.c (.int .i64 (.ofNat n))/\Tr.ah tm 14=.c (.sl σ5.aj 0 n (.ex n))/\Tr.ah tm 99=.c (.sl σ1.aj 0 n (.ex n))/\Tr.ah tm 100=.c (.int .i64 (.ofNat n))/\Tr.ah tm 101=.c (.int .i64 (.ofNat i))
    /\σ6.h σ5.aj=some ⟨bU n (λk=>if k<i then iI S U k n/iI S U k k else 0),none⟩/\Fr σ5 σ6/\σ5.aj+1<=σ6.aj) n ?_ ?_
   .refine⟨0,jb,jb,?_⟩
    simp(disch:=try exact jz) only[go_sem,z3,ap,t7,t8]
    exact⟨by rw[sF n λk=>iI S U k n/iI S U k k],fr,jp⟩
   .rintro x tm6 σ6 ⟨i,rfl,hi1,t7,t14,Dy,qy,atW,V7,gX,hn6⟩
    have as9:=Fr.refl gX.wf
    have q0:=gX.get hf5.wf Wu.o
    simp(disch:=try exact jz) only[go_sem,z3,t7,t14,Dy,qy,atW,aH]
    refine aJ (λhlt=>?_) (λhlt=>?_)
    .have qi:=gX.get hf5.wf (Wu.r i hlt).1
     have hUi:0<U i i:=eJ λe=>hp5 (by rw[<-hd5 i hlt];unfold iI;rw[(ah6 _).mpr e];rfl)
     have z1:=lW (hI5.u hlt (show n<n+1 by omega)) jb
     have z2:=lW (hI5.u hlt (show i<n+1 by omega)) jb
     have hfr:Ins.fr (false==(S i n==S i i)) (U i n) (U i i)=iI S U i n/iI S U i i:=atO _ _ hUi
     have hst:=nR n i (λk=>iI S U k n/iI S U k k)
     have awR:=gX.wf.lt V7
     simp(disch:=try exact jz) only[go_sem,z3,t7,t14,Dy,qy,atW,ak q0,q0,ak qi,qi,hfr,V7,aI V7,hst]
     exact⟨n-(i+1),jb,i+1,rfl,jb,rfl,rfl,fr,jb⟩
    .have:i=n:=jb
     subst this
     simp(disch:=try exact jz) only[go_sem,z3,t14]
     refine⟨⟨σ5.aj,iI S U,p,rfl,?_,jb,jb,hI5,hd5,hp5,hs5⟩,hf5.trans gX⟩
     rw[V7,uO]
def nJ.hr{h:Tr Bk}{mb n lo hi:Nat}{A:Nat->Nat->Rat}{bs:Nat->Nat}(hM:nJ h mb n (rC A) bs lo hi){p:Nat->Prop}(hp:∀b,b=mb\/lo<=b/\b<hi->p b):dN p h (.sl mb 0 n (.ex n)) n (λ_=>n) A:=
 ⟨λi=>wL (λ_=>n) bs i,bf _ hM.o rfl (hp _ (.inl rfl)) (λ_=>rfl) jj (λ_ _=>rfl),λi hi=>hM.r.hlp (λb h1 h2=>hp b (.inr ⟨h1,h2⟩)) jj (λ_ _=>rfl) (λ_ _ _ _=>rfl) hi⟩
def Qj{n:Nat}{l:List Nat}(hn:l.Nodup)(hl:∀i∈l,i<n):l.length<=n:=by have:=hn.length_le_of_subset (l₂:=List.range n) λi hi=>List.mem_range.mpr (hl i hi);grind
def abp{l:List Nat}(hn:l.Nodup)(v:Nat->Rat):NK l v l.length=oz l v:=by grind[adx]
def qK:Nat:=120000
def D8:qK=120000:=rfl
def amZ{n:Nat}(h:n<=8){a:Nat}(ha:a<=440):Jj a n<=qK:=by
 have hq:=D8;have h1:=yP a h;have h2:∀c,Jj a c+1=2^c*(a+1):=λc=>by
  induction c with
  |zero=>show a+1=1*(a+1);omega
  |succ c ih=>grind[Jj]
 grind
def aqo{σ:St}(hW:WF σ){sb xb:Nat}{g:iD}{x:Nat->Rat}(hs:DC (Lt σ.aj) σ.h sb g)(h:kK g)(hx:σ.h xb=some ⟨bU g.e.length x,none⟩){t:Rat}(hP:uT g x t){p p':Nat->Prop}{Dv Sv:B}(hDv:dN p σ.h Dv g.e.length (kE g.e) (Oq g x))(hSv:dN p σ.h Sv g.e.length (kE g.e) (Jg g x))
  {mtv:B}(hM:dN p' σ.h mtv g.e.length (λ_=>g.e.length) (gM g.e.length (aY g) x)){iv:B}{l:List Nat}(hl:WI σ.h iv l) (hc:Gv g.e.length (gM g.e.length (aY g) x) l){least:Bool}(hI:Ag h.Jk (iG g) least x t)
  (hre:least=true->∀E:Nat->Prop,(∃i,i<g.e.length/\E i/\i∈l)->(∀j,j<g.e.length->E j->iG g j=0)->(∀j i,j<g.e.length->i<g.e.length->E j->gM g.e.length (aY g) x j i≠0->E i)->False) (ht:least=true->t<1):
  aC EN 68 [.c (.ptr sb 0),.c (.sl xb 0 g.e.length (.ex g.e.length)),.agg [Dv,Sv],.c mtv,.c iv] σ λr σ'=>∃y,SV σ σ' r g.e.length y/\Ag h.Jk (iG g) least y t/\uT g y t/\meas g y t<meas g x t/\Fr σ σ':=by
 refine aN (kT.o _ _) kT.h ?_
 unfold kT
 dsimp only
 have hn8:=h.n
 have hll:=Qj hc.nodup hc.lt
 have hne:=hc.ne
 have hx0:=hI.nn
 obtain⟨m1,m2,m3⟩:=h.mz hx0
 have k1:=hDv.kn
 have k2:=hSv.kn
 have k3:=hM.kn
 have k4:=hl.kn
 have hle0:=hl.len
 have hFr:=Fr.refl hW
 have hZ:=h.avx hx0 hc.lt
 have hqK:=D8
 have hex:=amZ (n:=l.length) jb (a:=eB) jj
 simp(disch:=try exact jz) only[go_sem,z3,k1,k2]
 refine aC.st (Fr σ) (fr) λhF=>?_
 refine(amV hF.wf (hM.fr hW hF) m1 m2 (hl.fr hW hF) jb hc.lt).mono ?_
 rintro _ σ1 ⟨⟨mb,bs,rfl,hmb,hM1⟩,hf1⟩
 have hF1:=hF.trans hf1
 have avz:=hM1.b
 have avA:=hM1.l
 simp(disch:=try exact jz) only[go_sem,z3,ap]
 refine(ais hf1.wf (hM1.hr (p:=Lt σ1.aj) λb hb=>by show b<σ1.aj;omega) hne jb hne jb hZ jb).mono ?_
 rintro _ σ2 ⟨⟨kb,rfl,hK⟩,hf2⟩
 have hF2:=hF1.trans hf2
 obtain⟨f0,hf0,hfP⟩:=aip hc
 generalize hEP:ech l.length (mZ (gM g.e.length (aY g) x) l) l.length=EP at*
 obtain⟨F,P⟩:=EP
 have am0:0<(gB (IC P) l.length).length:=List.length_pos_of_mem ((yN (IC P) f0 l.length).mpr ⟨hf0,by grind[IC]⟩)
 have hfin:=iM am0
 have avC:=(yN (IC P) _ l.length).mp hfin
 obtain⟨hfl,hfb⟩:=avC
 have awS:at0 (gB (IC P) l.length) 0∉P:=λhin=>by grind[IC]
 have atX:=alR (h.sub hx0) hc hfl kd
 have hFZ:=Qg hZ (c:=l.length) jp
 have hEl:=(Ir l.length l.length (mZ (gM g.e.length (aY g) x) l) l.length).len
 rw[hEP]at atX hFZ hEl
 have hdz:DJ g.e.length qK (oz l (kvT l.length F P 0)):=by obtain⟨Q,q1,q2,q3⟩:=avy (n:=g.e.length) (l:=l) hEl hfl hFZ rfl;exact⟨Q,q1,ag q2 (xE hex),λi hi=>by obtain⟨z,ez,hz⟩:=q3 i hi;exact⟨z,ez,ag hz (xE hex)⟩⟩
 obtain⟨hdm,hdp⟩:=atX
 have hdm:∀j,j<g.e.length->oz l (kvT l.length F P 0) j=mv g.e.length (gM g.e.length (aY g) x) (oz l (kvT l.length F P 0)) j:=hdm
 have hdp:∀i∈l,0<oz l (kvT l.length F P 0) i:=hdp
 have hdn:Nn g.e.length (oz l (kvT l.length F P 0)):=λi _=>by grind[rU]
 obtain⟨b0,o0,c0,T0,e0,-,tK,hT0⟩:=hK.at am0
 have tK:ld σ2.h b0 (o0+0*1) 1 false=some (.c T0):=tK
 have hT0:jB (Lt σ2.aj) σ2.h T0 l.length (kvT l.length F P 0):=hT0
 dsimp only at e0
 simp(disch:=try exact jz) only[go_sem,z3,e0,tK]
 refine(WJ hf2.wf (hl.fr hW hF2) hT0 jb jb hc.lt).mono ?_
 rintro _ σ3 ⟨⟨db,rfl,hdb,hd1,hd2⟩,hf3⟩
 rw[abp hc.nodup]at hdb
 have hF3:=hF2.trans hf3
 have hx3:=hF3.get hW hx
 have q7:σ3.h σ.aj=some ⟨[Dv,Sv],none⟩:=(hf1.trans (hf2.trans hf3)).get hF.wf (aB _ _ _)
 obtain⟨D,hNr⟩:=hP.nr h hdn hdz (gj D8)
 generalize hdd:oz l (kvT l.length F P 0)=d at*
 have hdr:jB (λ_=>True) σ3.h (.sl db 0 g.e.length (.ex g.e.length)) g.e.length d:=bf (G:=λc=>gK (d c)) _ hdb rfl trivial (λ_=>rfl) jj λ_ _=>rfl
 have hxr:jB (λ_=>True) σ3.h (.sl xb 0 g.e.length (.ex g.e.length)) g.e.length x:=bf (G:=λc=>gK (x c)) _ hx3 rfl trivial (λ_=>rfl) jj λ_ _=>rfl
 simp(disch:=try exact jz) only[go_sem,z3,ak q7,k1,k2]
 refine(Qc hf3.wf (hs.fr hF3) hxr hdr ((hDv.fr hW hF3).keep (λ_ _=>rfl) λ_ _=>trivial) ((hSv.fr hW hF3).keep (λ_ _=>rfl) λ_ _=>trivial) hNr).mono ?_
 rintro _ σ4 ⟨rfl,hf4⟩
 have hD3:∀i,i<g.e.length->Es ((aY g).e i) ((aY g).k i) (x i) (lM g x i):=λi hi=>(ail h hi (hx0 i hi)).2
 have hcn:=adw h.Jk hD3 hc hdp
 rcases Tv (jC g.e.length (aY g) (lM g x) x d)with⟨e,-⟩|⟨v,ev,hvm,hvl⟩
 .grind
 .rw[ev]
  have hz0:∀i,i∉l->d i=0:=λi hi=>by rw[<-hdd];exact rU hi
  obtain⟨hI',hmu⟩:=ahQ h.Jk (iG g) (λj hj=>(h.m j hj).2.2.1) hI hD3 hdp hz0 hdm hre ht hvm hvl
  have hms:meas g (aX x d v) t<meas g x t:=by unfold meas;omega
  have hP':=(hP.ahH h hdn hdz (gj D8) hvm (.inl rfl) hI' hms).1
  obtain⟨s1,s2⟩:=hP.atS h hdn hdz (gj D8) hI.t0 hI.t1 (.inl hvm)
  have s3:=(hP.sz hI.t0 hI.t1).1
  have s4:=(hP'.sz hI.t0 hI.t1).1
  have wK:=hF3.trans hf4
  have Em:=Fr.refl hf4.wf
  simp(disch:=try exact jz) only[go_sem,z3,ap]
  refine aC.st (Fr σ4) (fr) λgZ=>?_
  have hx5:=(wK.trans gZ).get hW hx
  have hd5:=(hf4.trans gZ).get hf3.wf hdb
  have hdr:jB (λ_=>True) _ (.sl db 0 g.e.length (.ex g.e.length)) g.e.length d:=bf (G:=λc=>gK (d c)) _ hd5 rfl trivial (λ_=>rfl) jj λ_ _=>rfl
  have hxr:jB (λ_=>True) _ (.sl xb 0 g.e.length (.ex g.e.length)) g.e.length x:=bf (G:=λc=>gK (x c)) _ hx5 rfl trivial (λ_=>rfl) jj λ_ _=>rfl
  refine(JY gZ.wf hxr hdr jb s1 s3 (λi hi=>(s2 i hi).1) (λi hi=>(s2 i hi).2) s4).mono ?_
  rintro _ σ6 ⟨⟨rb,rfl,hr1,hr2,hr3⟩,gX⟩
  have yH:=wK.le
  have hr2:σ4.aj+1<=rb:=hr2
  simp(disch:=try exact jz) only[go_sem,z3,ap]
  exact⟨_,⟨rb,rfl,hr1,jb,hr3⟩,hI',hP',hms,(wK.trans gZ).trans gX⟩
def aqp{g:iD}(h:kK g){x:Nat->Rat}(hx:∀i,i<g.e.length->0<=x i){l:List Nat}(hl:∀i∈l,i<g.e.length):∃Q b:Nat,0<Q/\Q<=2^b/\b<=440/\∀i k,i<l.length->k<l.length+1->∃z:Int,ng l.length (mZ (gM g.e.length (aY g) x) l) (λa=>-iG g (at0 l a)) i k=(z:Rat)/(Q:Rat)/\z.natAbs<=2^b:=by
 have heB:=WZ;obtain⟨p1,p2⟩:=h.gE hx;have hp:=bW (show 0<60 by decide) p1;have hle:60*Xe.gE g x<=2^(6+eB):=nM jj p2;refine⟨60*Xe.gE g x,6+eB+6,hp,ag hle (xE jb),jb,λi k hi hk=>?_⟩;have e60:((60:Nat):Rat)=60:=rfl;have key:dR (60*Xe.gE g x) (ng l.length (mZ (gM g.e.length (aY g) x) l) (λa=>-iG g (at0 l a)) i k)/\-60<=ng l.length (mZ (gM g.e.length (aY g) x) l) (λa=>-iG g (at0 l a)) i k/\ng l.length (mZ (gM g.e.length (aY g) x) l) (λa=>-iG g (at0 l a)) i k<=60:=by
  unfold ng;split
  .next hk'=>
   have h1:=hl _ (iM hi);have h2:=hl _ (iM hk');have h3:=h.m01 hx h1 h2;have h4:=h.mD hx (j:=at0 l i) h2;have hone:dR (Xe.gE g x) (1:Rat):=⟨Xe.gE g x,by have:=gY p1;have e:(((Xe.gE g x:Nat):Int):Rat)=((Xe.gE g x:Nat):Rat):=rfl;grind⟩
   unfold mZ tY;refine⟨(h4.sub ?_).dvd (gm _ _) hp,?_,?_⟩
   .grind[dR.zero]
   .grind
   grind
  .have h1:=(h.m _ (hl _ (iM hi))).2;show dR _ (-(ix g.e (at0 l i)).m.q)/\-60<=-(ix g.e (at0 l i)).m.q/\-(ix g.e (at0 l i)).m.q<=60;exact⟨(h1.1.dvd (aL _ _) hp).neg,by grind,by grind⟩
 obtain⟨z,ez,hz⟩:=TG (K:=60) hp hle key.1 kd kd;grind
def aqr{σ:St}(hW:WF σ){sb:Nat}{g:iD}{x:Nat->Rat}(hs:DC (Lt σ.aj) σ.h sb g)(h:kK g)(hx0:Nn g.e.length x){p':Nat->Prop}{mtv:B}(hM:dN p' σ.h mtv g.e.length (λ_=>g.e.length) (gM g.e.length (aY g) x)){iv:B}{l:List Nat}(hl:WI σ.h iv l)(hnd:l.Nodup)(hln:∀i∈l,i<g.e.length)
  (hcl:Tn g.e.length (gM g.e.length (aY g) x) l) (hno:∀S:Nat->Prop,(∃i,i<g.e.length/\S i)->(∀i,i<g.e.length->S i->i∈l)->¬Ins.Shut g.e.length (gM g.e.length (aY g) x) S) (hc0:∀j,j<g.e.length->j∉l->iG g j=0):
  aC EN 69 [.c (.ptr sb 0),.c mtv,.c iv] σ λr σ'=>∃v,SV σ σ' r g.e.length v/\Nn g.e.length v/\(∀j,j<g.e.length->v j=mv g.e.length (gM g.e.length (aY g) x) v j+iG g j)/\(∀j,j∉l->v j=0)/\DJ g.e.length qK v/\Fr σ σ':=by
 refine aN (kU.o _ _) kU.h ?_
 unfold kU
 dsimp only
 have hn8:=h.n
 have hll:=Qj hnd hln
 obtain⟨m1,m2,m3⟩:=h.mz hx0
 have k3:=hM.kn
 have k4:=hl.kn
 have hle0:=hl.len
 have hlM:=hM.len
 have hFr:=Fr.refl hW
 have hng:=λ(args:List V) (σ:St) (K:V->St->Prop)=>jS (E:=EN) (K:=K) (dX.o args σ) dX.h
 unfold dX at hng
 dsimp only at hng
 by_cases hl0:l.length=0
 .have e0:l=[]:=gn.mp hl0
  subst e0
  have hle0:lenV (.c iv)=some (.c (.int .i64 (.ofNat 0))):=hle0
  simp(disch:=try exact jz) only[go_sem,z3,hle0,gb,hlM]
  refine⟨λ_=>0,⟨σ.aj,rfl,aB _ _ _,jp,bO _⟩,λ_ _=>aM,λj hj=>?_,λ_ _=>rfl,⟨1,jj,gz,λi _=>⟨0,show(0:Rat)=((0:Int):Rat)/((1:Nat):Rat) by decide+kernel,bz _⟩⟩,fr⟩
  grind[mv,bF]
 .have e1:decide (l.length=0)=false:=aw hl0
  have hs':=hs
  obtain⟨⟨ev,gv,lv,bv,hsb,hg,⟨R,P,hL1,hL2⟩,hB⟩,hsl⟩:=hs
  have hsl:sb<σ.aj:=hsl
  have hek:=hg.e.kn
  simp(disch:=try exact jz) only[go_sem,z3,hle0,e1]
  refine bK.mono (Q:=λex tm σ4=>ex=.exit 0/\Tr.ah tm 1=.c mtv/\Tr.ah tm 2=.c iv/\Tr.ah tm 7=.c (.sl σ.aj 0 l.length (.ex l.length))/\σ4.h σ.aj=some ⟨bU l.length (λa=>-iG g (at0 l a)),none⟩/\Fr σ σ4/\σ.aj+1<=σ4.aj)
   (aF (λq tm σ4=>∃k,q=l.length-k/\k<=l.length/\Tr.ah tm 0=.c (.ptr sb 0)/\Tr.ah tm 1=.c mtv/\Tr.ah tm 2=.c iv/\Tr.ah tm 7=.c (.sl σ.aj 0 l.length (.ex l.length))/\Tr.ah tm 21=.c iv/\Tr.ah tm 22=.c (.int .i64 (.ofNat l.length))/\Tr.ah tm 23=.c (.int .i64 (.ofNat k))
    /\σ4.h σ.aj=some ⟨bU l.length (λa=>if a<k then-iG g (at0 l a)else 0),none⟩/\Fr σ σ4/\σ.aj+1<=σ4.aj) l.length ?_ ?_) ?_
  .refine⟨0,jb,jb,?_⟩
   simp(disch:=try exact jz) only[go_sem,z3,ap]
   exact⟨by rfl,fr,jp⟩
  .rintro q tm σ4 ⟨k,rfl,hk,t0,t1,t2,t7,t21,t22,t23,q7,hf,hnx⟩
   have Em:=Fr.refl hf.wf
   simp(disch:=try exact jz) only[go_sem,z3,t0,t1,t2,t7,t21,t22,t23,aH]
   refine aJ (λhlt=>?_) (λhlt=>?_)
   .obtain⟨bi,oi,ci,ei,OD⟩:=hl.one jb
    have OD:=hf.ld hW (OD k hlt)
    have ai:V.c (.sl bi oi l.length ci)=V.c iv:=by rw[ei]
    rw[ei]at t21
    have hin:=hln _ (iM hlt)
    have ahw:=hf.get hW hsb
    obtain⟨b5,o5,c5,rfl,C1,A1,bP,-,hC,hA1⟩:=hg.e.at hin
    have bP:=hf.ld hW bP
    have V3:=aZ.kn hC
    have hAk:=hA1.kn
    have hw:=nU (h.m _ hin).1
    have hst:=nR l.length k (λa=>-iG g (at0 l a))
    have ld3:=yX bP 3 true jj jj
    have hl7:=hf.wf.lt q7
    have hrq:rq (ix g.e (at0 l k)).m.n (ix g.e (at0 l k)).m.s (ix g.e (at0 l k)).m.d=iG g (at0 l k):=rfl
    have hcp:=(h.m _ hin).2
    have hcs:iG g (at0 l k)=(ix g.e (at0 l k)).m.q:=rfl
    have zq:Sz (iG g (at0 l k)):=by rw[hcs];exact(Ez (b:=6) jj jj hcp.1 (by have:=hcp.2.1;grind) (by have:=hcp.2.2;grind)).sz jj
    simp(disch:=try exact jz) only[go_sem,z3,t0,t1,t2,t7,t21,t22,t23,OD,ak ahw,ld3,hng,UR,hrq,q7,aI q7,hek,hst]
    exact⟨l.length-(k+1),jb,k+1,rfl,jb,ai,rfl,rfl,fr,jb⟩
   .have:k=l.length:=jb
    subst this
    simp(disch:=try exact jz) only[go_sem,z3,ap]
    refine⟨t1,t2,t7,?_,hf,hnx⟩
    rw[q7,uO]
  .rintro _ tm σ4 ⟨rfl,t1,t2,t7,q7,hf4,hn4⟩
   have yH:=hf4.le
   simp(disch:=try exact jz) only[go_sem,z3,t1,t2,t7]
   refine(amV hf4.wf (hM.fr hW hf4) m1 m2 (hl.fr hW hf4) jb hln).mono ?_
   rintro _ σ5 ⟨⟨mb,bs,rfl,hmb,Wu⟩,hf5⟩
   have gZ:=hf4.trans hf5
   have q75:=hf5.get hf4.wf q7
   have avz:=Wu.b
   have avA:=Wu.l
   obtain⟨Q,b,Q1,Q2,Q3,Q4⟩:=aqp h hx0 hln
   have hex:=amZ (n:=l.length) jb Q3
   have hqK:=D8
   have hinj:=adO (h.sub hx0) hnd hln hcl hno (B:=mZ (gM g.e.length (aY g) x) l) (s:=λ_=>1) (λ_ _=>jj) λi j _ _=>(gH _).symm
   simp(disch:=try exact jz) only[go_sem,z3,t1,t2,t7]
   refine(alT hf5.wf (Wu.hr (p:=λ_=>True) λ_ _=>trivial) (bf (G:=λa=>gK (-iG g (at0 l a))) (p:=λ_=>True) _ q75 rfl trivial (λ_=>rfl) jj λ_ _=>rfl) jb jb Q1 Q2 Q4 jb hinj).mono ?_
   rintro _ σ6 ⟨⟨nb,W,p,rfl,hnb,g1,g2,hIZ,hdi,hp0,hso⟩,gX⟩
   have kH:=gZ.trans gX
   simp(disch:=try exact jz) only[go_sem,z3,t1,t2,hlM]
   refine(WJ (p:=λ_=>True) gX.wf (hl.fr hW kH) (bf (G:=λc=>gK (W c l.length/W c c)) _ hnb rfl trivial (λ_=>rfl) jj λ_ _=>rfl) jb jb hln).mono ?_
   rintro _ σ7 ⟨⟨rb,rfl,hr1,hr2,hr3⟩,oI⟩
   rw[abp hnd]at hr1
   have yI:=kH.le
   have hv:=aiq (M:=gM g.e.length (aY g) x) (l:=l) (B:=ng l.length (mZ (gM g.e.length (aY g) x) l) λa=>-iG g (at0 l a)) (s:=λ_=>1) (v:=λi=>W i l.length/W i i) (c:=iG g) (λ_ _=>jj) (λi j _ hj=>by unfold ng;rw[ae hj,gH]) (λi _=>by unfold ng;rw[ab jb,gH]) λi hi=>by have e:ng l.length (mZ (gM g.e.length (aY g) x) l) (λa=>-iG g (at0 l a)) i l.length=-iG g (at0 l i):=ab jb;rw[e,<-hso i hi];exact aK λj hj=>by unfold ng;rw[ae hj]
   have hcn:∀j,j<g.e.length->0<=iG g j:=λj hj=>(h.m j hj).2.2.1
   have hvz:DJ g.e.length qK (oz l λi=>W i l.length/W i i):=by obtain⟨Q',q1,q2,q3⟩:=atN (n:=g.e.length) (l:=l) hIZ hdi hp0 jb rfl hnd;exact⟨Q',q1,ag q2 (xE hex),λi hi=>by obtain⟨z,ez,hz⟩:=q3 i hi;exact⟨z,ez,ag hz (xE hex)⟩⟩
   simp(disch:=try exact jz) only[go_sem,z3,ap]
   exact⟨_,⟨rb,rfl,hr1,jb,hr3⟩,alq (h.sub hx0) hnd hln hcl hno hcn hc0 hv,Gu hnd hln hcl hc0 hv,λj hj=>rU hj,hvz,kH.trans oI⟩
end Go.Proofs.Xe
