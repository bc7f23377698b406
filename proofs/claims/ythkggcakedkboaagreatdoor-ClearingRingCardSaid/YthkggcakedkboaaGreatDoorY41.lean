import Derived.Test.YthkggcakedkboaaGreatDoorY40
set_option linter.all false
set_option maxRecDepth 100000
set_option maxHeartbeats 8000000
namespace Go.Proofs.Xe
open Go.RowKit Go.Proofs.Ins
def TW{σ:St}(hW:WF σ){p:Nat->Prop}{cm G Dv Rf Nt Su Re Fu:B}{x:Nat->Rat}(hv:jB p σ.h cm 2 x)(k1:G.kn=true)(k2:Dv.kn=true)(k3:Rf.kn=true)(k4:Nt.kn=true)(k5:Su.kn=true)(k6:Re.kn=true)(k7:Fu.kn=true){a b:Nat}(ha:a<=1000)(hb:b<=1000)(h0:x 0=((Int.ofNat a:Int):Rat))(h1:x 1=((Int.ofNat b:Int):Rat)):
  aC EN 43 [.agg [cm,G,Dv,Rf,Nt,Su,Re,Fu],.c (.int .i64 (.ofNat a)),.c (.int .i64 (.ofNat b))] σ λr σ'=>r=.c (.bool true)/\Fr σ σ':=by
 refine aN (Bo.o _ _) Bo.h ?_
 unfold Bo
 dsimp only
 have hk:=aZ.kn hv
 have hl:=aZ.len hv
 obtain⟨b5,o5,c5,rfl,-,l0⟩:=aZ.at3 hv (c:=0) jb
 obtain⟨b6,o6,c6,e,-,l1⟩:=aZ.at3 hv (c:=1) jb
 cases e
 rw[h0]at l0
 rw[h1]at l1
 have m0:=hW.dw l0
 have i1: -9223372036854775808<=Int.ofNat a:=by simp
 have i2:Int.ofNat a<=9223372036854775807:=by grind
 have i3: -9223372036854775808<=Int.ofNat b:=by simp
 have i4:Int.ofNat b<=9223372036854775807:=by grind
 have hFr:=Fr.refl hW
 have d2:decide (Int.ofNat 2=Int.ofNat 2)=true:=rfl
 have d3:decide (((Int.ofNat a:Int):Rat)=((Int.ofNat a:Int):Rat))=true:=bj rfl
 have d4:decide (((Int.ofNat b:Int):Rat)=((Int.ofNat b:Int):Rat))=true:=bj rfl
 simp(disch:=try exact jz) only[go_sem,z3,hk,hl,k1,k2,k3,k4,k5,k6,k7,l0,l1,d2,d3,d4]
 exact fr
def Xd{σ:St}(hW:WF σ):aC EN 42 [.c (.int .i64 (.ofNat 0)),.c (.bool false)] σ λr σ'=>(∃ev dv,r=.agg [ev,dv]/\xK (Lt σ'.aj) σ'.h ev dv (DK 0 false))/\Fr σ σ':=by
 refine aN (mW.o _ _) mW.h ?_;unfold mW;dsimp only;have hFr:=Fr.refl hW;simp(disch:=try exact jz) only[go_sem,z3];refine⟨⟨_,_,rfl,⟨⟨λi=>if i=0 then .sl (σ.aj+1+1+1) 0 1 (.ex 1)else .sl (σ.aj+1+1+1+1) 0 1 (.ex 1),λ_=>.bg,?_,?_⟩,⟨λ_=>.bg,.inl ⟨rfl,rfl⟩,λi hi=>by cases hi⟩⟩⟩,fr⟩
 .refine bf (n:=2) (e:=5) _ ((au _ _ _ _ jb).trans (aB _ _ _)) rfl (by show σ.aj+1<σ.aj+1+1+1+1+1;omega) (λ_=>rfl) jj ?_;intro j hj;match j,hj with
  |0,_=>rfl
  |1,_=>rfl
 .intro i hi;match i,hi with
  |0,_=>exact⟨bf (n:=1) (e:=5) _ ((au _ _ _ _ jb).trans ((au _ _ _ _ jb).trans ((au _ _ _ _ jb).trans ((au _ _ _ _ jb).trans (aB _ _ _))))) rfl (by show σ.aj+1+1+1<σ.aj+1+1+1+1+1;omega) (λ_=>rfl) jj (λ_ _=>rfl),λ_=>.bg,.inl ⟨rfl,rfl⟩,λi hi=>by cases hi⟩
  |1,_=>exact⟨bf (n:=1) (e:=5) _ ((au _ _ _ _ jb).trans ((au _ _ _ _ jb).trans (aB _ _ _))) rfl (by show σ.aj+1+1+1+1<σ.aj+1+1+1+1+1;omega) (λ_=>rfl) jj (λ_ _=>rfl),λ_=>.bg,.inl ⟨rfl,rfl⟩,λi hi=>by cases hi⟩
def adR{σ:St}{ty fU bytes b:Nat}{cs news:List B}(hb:σ.h b=some ⟨cs,none⟩)(hl:cs.length=fU)(hk:cs.all B.kn=true)(h2:0<fU)(h3:2*bytes<=140737488355328):oV ty fU bytes (.c (.sl b 0 1 (.ex 1))) 1 news σ=some (.c (.sl σ.aj 0 2 .opn),⟨hset σ.h σ.aj ⟨cs++news,some (fU,ty)⟩,σ.aj+1⟩):=by
 unfold oV;dsimp only;rw[Lr (by omega:1≠0),hb];have e1:Nat.beq fU fU=true:=by simp
 simp only[eN,Bk.rd,Nat.one_mul,gc,<-hl,bX,hk,DY (hl▸h2),uj h3,eY,cg,jv,oU,Bool.true_and];rw[show(0+cs.length).ble cs.length=true by simp];rfl
def aiB{σ:St}(hW:WF σ):aC EN 42 [.c (.int .i64 (.ofNat 3)),.c (.bool true)] σ λr σ'=>(∃ev dv,r=.agg [ev,dv]/\xK (Lt σ'.aj) σ'.h ev dv (DK 3 true))/\Fr σ σ':=by
 refine aN (mW.o _ _) mW.h ?_;unfold mW;dsimp only;have hFr:=Fr.refl hW;simp(disch:=try exact jz) only[go_sem,z3];rw[adR (fU:=5) (cs:=[.int .i64 (.ofNat 1),.int .i64 (.ofNat 2),.bool (rn ((Int.ofNat 10:Int):Rat)),.str (rs ((Int.ofNat 10:Int):Rat)),.str (rd ((Int.ofNat 10:Int):Rat))]) ?hb rfl rfl jj jj]
 case hb=>grind[au,aB]
 simp(disch:=try exact jz) only[go_sem,z3];refine⟨⟨_,_,rfl,⟨⟨λi=>if i=0 then .sl (σ.aj+1+1+1+1+1+1) 0 2 .opn else .sl (σ.aj+1+1+1+1) 0 1 (.ex 1),λ_=>.bg,?_,?_⟩,⟨λ_=>.bg,.inl ⟨rfl,rfl⟩,λi hi=>by cases hi⟩⟩⟩,fr⟩
 .refine bf (n:=2) (e:=5) _ ((au _ _ _ _ jb).trans (aB _ _ _)) rfl (by show σ.aj+1<σ.aj+1+1+1+1+1+1+1;omega) (λ_=>rfl) jj ?_;intro j hj;match j,hj with
  |0,_=>rfl
  |1,_=>rfl
 .intro i hi;match i,hi with
  |0,_=>
   refine⟨bf (n:=2) (e:=5) _ ((au _ _ _ _ jb).trans ((au _ _ _ _ jb).trans (aB _ _ _))) (DZ _ _ jj) (by show σ.aj+1+1+1+1+1+1<σ.aj+1+1+1+1+1+1+1;omega) (λ_=>rfl) jj ?_,λ_=>.bg,.inl ⟨rfl,rfl⟩,λi hi=>by cases hi⟩
   intro j hj
   rfl
  |1,_=>exact⟨bf (n:=1) (e:=5) _ ((au _ _ _ _ jb).trans ((au _ _ _ _ jb).trans ((au _ _ _ _ jb).trans ((au _ _ _ _ jb).trans ((au _ _ _ _ jb).trans (aB _ _ _)))))) rfl (by show σ.aj+1+1+1+1<σ.aj+1+1+1+1+1+1+1;omega) (λ_=>rfl) jj (λ_ _=>rfl),λ_=>.bg,.inl ⟨rfl,rfl⟩,λi hi=>by cases hi⟩
def alY{σ:St}(hW:WF σ):aC EN 18 [] σ λr σ'=>r=.c (.bool true)/\Fr σ σ':=by refine aN (Bl.o _ _) Bl.h ?_;unfold Bl;dsimp only;have g0:kK (DK 0 false):=(TV ⟨2,by rfl⟩ false).xY;have g3:kK (DK 3 true):=(TV ⟨17,by rfl⟩ true).xY;have n0:(DK 0 false).e.length=2:=zQ ..;have n3:(DK 3 true).e.length=2:=zQ ..;simp(disch:=try exact jz) only[go_sem,z3];refine(Xd hW).mono ?_;rintro _ σ1 ⟨⟨ev,dv,rfl,hg⟩,hf1⟩;have ek:=hg.e.kn;have dk:=hg.d.kn;simp(disch:=try exact jz) only[go_sem,z3,ek,dk];refine(TQ hf1.wf hg g0).mono ?_;rintro _ σ2 ⟨x,⟨rr,rfl,hV⟩,-,-,hx,hf2⟩;obtain⟨cm,G,Dv,Rf,Nt,Su,Re,Fu,rfl,v1,v2,v3,v4,v5,v6,v7,v8⟩:=hV;have k1:=aZ.kn v1;have k2:=v2.kn;have k3:=v3.kn;have k4:=v4.kn;have k5:=v5.kn;have k6:=aZ.kn v6;have k7:=aZ.kn v7;have k8:=aZ.kn v8;have Zc:=Fr.refl hf2.wf;simp(disch:=try exact jz) only[go_sem,z3,k1,k2,k3,k4,k5,k6,k7,k8];refine aC.st (Fr σ2) (fr) λhFa=>?_;refine(Xd hFa.wf).mono ?_;rintro _ σ3 ⟨⟨ev,dv,rfl,hg⟩,hf3⟩;have ek:=hg.e.kn;have dk:=hg.d.kn;simp(disch:=try exact jz) only[go_sem,z3,ek,dk];refine(abt hf3.wf hg g0).mono ?_;rintro _ σ4 ⟨y,⟨rr,rfl,hV⟩,-,-,hy,hf4⟩;obtain⟨cm',G',Dv',Rf',Nt',Su',Re',Fu',rfl,w1,w2,w3,w4,w5,w6,w7,w8⟩:=hV;have j1:=aZ.kn w1;have j2:=w2.kn;have j3:=w3.kn;have j4:=w4.kn;have j5:=w5.kn;have j6:=aZ.kn w6;have j7:=aZ.kn w7;have j8:=aZ.kn w8;have Em:=Fr.refl hf4.wf;simp(disch:=try exact jz) only[go_sem,z3,j1,j2,j3,j4,j5,j6,j7,j8];refine aC.st (Fr σ4) (fr) λhFb=>?_;refine(aiB hFb.wf).mono ?_;rintro _ σ5 ⟨⟨ev,dv,rfl,hg⟩,hf5⟩;have ek:=hg.e.kn;have dk:=hg.d.kn;simp(disch:=try exact jz) only[go_sem,z3,ek,dk];refine(TQ hf5.wf hg g3).mono ?_;rintro _ σ6 ⟨z,⟨rr,rfl,hV⟩,-,-,hz,gX⟩;obtain⟨cq,Gq,Dq,Rq,Nq,Sq,Eq,Fq,rfl,u1,u2,u3,u4,u5,u6,u7,u8⟩:=hV;have i1:=aZ.kn u1;have i2:=u2.kn;have i3:=u3.kn;have i4:=u4.kn;have i5:=u5.kn;have i6:=aZ.kn u6;have i7:=aZ.kn u7;have i8:=aZ.kn u8;have aue:=hFa.trans (hf3.trans hf4);have alZ:=hFb.trans (hf5.trans gX);have q1:=(hf3.trans (hf4.trans alZ)).get hFa.wf (aB _ _ _);have q3:=(hf5.trans gX).get hFb.wf (aB _ _ _);have as9:=Fr.refl gX.wf;have l2:=gX.wf.lt q1;have l4:=gX.wf.lt q3;have d0:decide (Int.ofNat 0=Int.ofNat 0)=true:=rfl;have d1:decide ((0:Int)=Int.ofNat 0)=true:=rfl;rw[n0]at v1 w1;rw[n3]at u1;simp(disch:=try exact jz) only[go_sem,z3,i1,i2,i3,i4,i5,i6,i7,i8,ak q1,q1,k1,k2,k3,k4,k5,k6,k7,k8,d0,d1];refine aC.st (Fr σ6) (fr) λhFc=>?_;obtain⟨x0,x1⟩:=aub hx;obtain⟨y0,y1⟩:=aud hy;obtain⟨z0,z1⟩:=auc hz;refine(TW (a:=10) (b:=10) hFc.wf (aZ.fr hf2.wf (aue.trans (alZ.trans hFc)) v1) k2 k3 k4 k5 k6 k7 k8 jj jj x0 x1).mono ?_;rintro _ σ7 ⟨rfl,oI⟩;have q37:=(hFc.trans oI).get gX.wf q3;have q57:=oI.get hFc.wf (aB _ _ _);have avG:=aue.trans (alZ.trans (hFc.trans oI));have awU:=Fr.refl oI.wf;simp(disch:=try exact jz) only[go_sem,z3,ak q37,q37,j1,j2,j3,j4,j5,j6,j7,j8];refine(TW (a:=0) (b:=0) oI.wf (aZ.fr hf4.wf (alZ.trans (hFc.trans oI)) w1) j2 j3 j4 j5 j6 j7 j8 jj jj y0 y1).mono ?_;rintro _ σ8 ⟨rfl,qE⟩;have q58:=qE.get oI.wf q57;simp(disch:=try exact jz) only[go_sem,z3,ak q58,q58,i1,i2,i3,i4,i5,i6,i7,i8];refine(TW (a:=6) (b:=3) qE.wf (aZ.fr gX.wf (hFc.trans (oI.trans qE)) u1) i2 i3 i4 i5 i6 i7 i8 jj jj z0 z1).mono ?_;rintro _ σ9 ⟨rfl,hf9⟩;have hFz:=hf1.trans (hf2.trans (avG.trans (qE.trans hf9)));simp(disch:=try exact jz) only[go_sem,z3];exact hFz
def Sz.one:Sz 1:=(show Sz ((1:Int):Rat)from(Df (k:=1) jj jj).mono jj)
def rgE(m:Nat->Rat)(bs:Nat->Nat)(j:Nat):List B:=[.bool (rn (m j)),.str (rs (m j)),.str (rd (m j)),.sl (bs j) 0 1 (.ex 1),.bg]
structure RgI(σ σ':St)(q c:Rat)(n j:Nat)(ev:B)(bs:Nat->Nat)(m:Nat->Rat):Prop where
 a:σ'.h σ.aj=some ⟨[.bool (rn q),.str (rs q),.str (rd q)],none⟩
 c:σ'.h (σ.aj+1)=some ⟨[.bool (rn c),.str (rs c),.str (rd c)],none⟩
 b:σ'.h (σ.aj+1+1)=some ⟨[ev,.bg],none⟩
 e:(j=0/\ev=.bg)\/∃eb,ev=.sl eb 0 j .opn/\0<j/\σ'.h eb=some ⟨dF j (rgE m bs),some (5,52)⟩/\σ.aj+1+1+1<=eb/\eb<σ'.aj/\∀k,k<j->bs k≠eb
 l:∀k,k<j->σ'.h (bs k)=some ⟨[.int .i64 (.ofNat ((k+1)%n)),.int .i64 (.ofNat 2),.bool (rn q),.str (rs q),.str (rd q)],none⟩/\σ.aj+1+1+1<=bs k/\bs k<σ'.aj
 nx:σ.aj+1+1+1<=σ'.aj
 f:Fr σ σ'
def aiC(i:Nat)(m:Nat->Rat)(bs:Nat->Nat):(dF i (rgE m bs)).take (i*5)=dF i (rgE m bs):=agz λ_=>rfl
def al0(i:Nat)(m:Nat->Rat)(bs:Nat->Nat):i*5<=(dF i (rgE m bs)).length:=by rw[wV (e:=5) λ_=>rfl];exact jp
def RgI.push{σ σ':St}{q c:Rat}{n j:Nat}{ev:B}{bs:Nat->Nat}{m:Nat->Rat}(hI:RgI σ σ' q c n j ev bs m){h':Tr Bk}{nx b n':Nat}(hb:h' (σ.aj+1+1)=some ⟨[.sl nx 0 (j+1) .opn,.bg],none⟩)
  (hx:h' nx=some ⟨dF j (rgE m bs)++[.bool (rn (m j)),.str (rs (m j)),.str (rd (m j)),.sl b 0 1 (.ex 1),.bg],some (5,52)⟩) (hc:h' b=some ⟨[.int .i64 (.ofNat ((j+1)%n)),.int .i64 (.ofNat 2),.bool (rn q),.str (rs q),.str (rd q)],none⟩)
  (hk:∀y,σ.aj<=y->y<σ'.aj->y≠σ.aj+1+1->(∀eb k,ev=.sl eb 0 j k->y≠eb)->h' y=σ'.h y) (hn:σ'.aj<=nx) (hn':nx<n') (h1:σ'.aj<=b) (h2:b<n') (h3:b≠nx) (hf:Fr σ ⟨h',n'⟩):RgI σ ⟨h',n'⟩ q c n (j+1) (.sl nx 0 (j+1) .opn) (aT bs j b) m:=by
 have hn0:=hI.nx
 have he:∀y,(y=σ.aj\/y=σ.aj+1\/∃k,k<j/\y=bs k)->∀eb k,ev=.sl eb 0 j k->y≠eb:=λy hy eb k e=>by
  rcases hI.e with⟨-,h⟩|⟨eb',h,-,-,k2,k3,k4⟩
  .rw[h]at e;cases e
  .rw[h]at e;cases e;rcases hy with rfl|rfl|⟨k,h8,rfl⟩
   .omega
   .omega
   .exact k4 k h8
 refine⟨?_,?_,hb,.inr ⟨nx,rfl,jb,?_,jb,hn',λk hk'=>?_⟩,λk hk'=>?_,by show _<=n';omega,hf⟩
 .rw[<-hI.a];exact hk _ jb jb jb (he _ (.inl rfl))
 .rw[<-hI.c];exact hk _ jb jb jb (he _ (.inr (.inl rfl)))
 .show h' nx=_
  rw[hx,vM]
  congr 2
  refine dO λk hk=>?_
  unfold kJ rgE
  by_cases e:k=j
  .rw[ae e,e,aS]
  .rw[ab e,aW _ _ _ _ e]
 .by_cases e:k=j
  .rw[e,aS];exact h3
  .rw[aW _ _ _ _ e]
   have:=(hI.l k jb).2.2
   omega
 .by_cases e:k=j
  .rw[e,aS];exact⟨hc,jb,h2⟩
  .rw[aW _ _ _ _ e]
   obtain⟨l1,l2,l3⟩:=hI.l k jb
   refine⟨?_,l2,by show _<n';omega⟩
   rw[<-l1]
   exact hk _ jb l3 jb (he _ (.inr (.inr ⟨k,jb,rfl⟩)))
def aqC{n:Nat}(hn:0<n)(c:Rat)(m:Nat->Rat)(bs:Nat->Nat):yc (dF n (rgE m bs)) (0*5) [.bool (rn c),.str (rs c),.str (rd c)]=some (dF n (rgE (aT m 0 c) bs)):=by
 have:=Ef (e:=5) (k:=0) (vs:=[.bool (rn c),.str (rs c),.str (rd c)]) (n:=n) (i:=0) (G:=rgE m bs) (λ_=>rfl) hn kc;rw[cB]at this;rw[this];show some (dF n _)=_;congr 1;refine dO λj _=>?_;unfold kJ rgE aT;split
 .next e=>subst e;rfl
 .rfl
def RgI.grp{σ σ':St}{q c:Rat}{n eb:Nat}{bs:Nat->Nat}{m:Nat->Rat}(hI:RgI σ σ' q c n n (.sl eb 0 n .opn) bs m)(hn:0<n):xK (λb=>σ.aj+1+1+1<=b/\b<σ'.aj) σ'.h (.sl eb 0 n .opn) .bg (GH n m q):=by
 obtain⟨eb,e,-,k1,k2,k3,-⟩:=hI.e.resolve_left jb;cases e;have hlen:=TR (n:=n) (m:=m) (q:=q);refine⟨⟨λj=>.sl (bs j) 0 1 (.ex 1),λ_=>.bg,?_,λi hi=>?_⟩,wW.none _ _⟩
 .rw[hlen];refine(bf .opn k1 rfl ⟨k2,k3⟩ (λ_=>rfl) jj λ_ _=>rfl).congr λi hi=>?_;rw[wH hi];rfl
 .rw[hlen]at hi;rw[wH hi];obtain⟨l1,l2,l3⟩:=hI.l i hi;refine⟨?_,mJ.none _ _⟩;exact bf (n:=1) (G:=λ_=>[.int .i64 (.ofNat ((i+1)%n)),.int .i64 (.ofNat 2),.bool (rn q),.str (rs q),.str (rd q)]) _ l1 rfl ⟨l2,l3⟩ (λ_=>rfl) (Nat.zero_lt_succ _) (λ_ _=>rfl)|>.congr λk hk=>by
   have:k=0:=by have:k<1:=hk;omega
   rw[this];rfl
def ZA{σ:St}(hW:WF σ){nm av mv:Nat}(hnm:nm<=255)(hav:av<=65535)(hmv:mv<=65535):
  aC EN 11 [.c (.int .u8 (.ofNat nm)),.c (.int .u16 (.ofNat av)),.c (.int .u16 (.ofNat mv))] σ λr _=>r=.c (.bool true):=by
 refine aN (oh.o _ _) oh.h ?_
 unfold oh
 dsimp only
 have hS1:Sm 1 1:=Sm.int (a:=1) jj jj
 have hqS:Sm 1000 (amt av+1):=((uZ av).add hS1).mono jj
 have hz:Sz (amt av+1):=((uZ av).add hS1).mono jj
 have hqC:=xB av
 have hqU:kF 60 60 (amt av+1):=⟨hqC.1.add ⟨60,by rw[show((60:Int):Rat)=60 from rfl,show((60:Nat):Rat)=60 from rfl,show(60:Rat)/60=1 by grind]⟩,by have:=hqC.2.1;grind,by have:=hqC.2.2;grind⟩
 have hq0:0<amt av+1:=by have:=hqC.2.1;grind
 have hcU:kF 60 60 (amt mv):=kF.c60 (xB mv)
 have hcS:Sm 1000 (amt mv):=(uZ mv).mono jj
 have z1:=agB av
 have z2:=agB mv
 have z3:Sz 1:=Sz.one
 simp(disch:=try exact jz) only[go_sem,z3]
 clear hqC
 generalize amt av+1=q at*
 generalize amt mv=c at*
 have hs2:2<=2+nm%7:=jb
 have hs8:2+nm%7<=8:=jb
 generalize 2+nm%7=n at*
 refine bK.mono (Q:=λe tm σ'=>e=.exit 0/\∃ev bs,Tr.ah tm 7=.c (.int .i64 (.ofNat n))/\Tr.ah tm 8=.c (.ptr σ.aj 0)/\Tr.ah tm 9=.c (.ptr (σ.aj+1) 0)/\Tr.ah tm 10=.c (.ptr (σ.aj+1+1) 0)/\RgI σ σ' q c n n ev bs λ_=>0)
  (aF (λx tm σ'=>∃j ev bs,x=n-j/\j<=n/\Tr.ah tm 7=.c (.int .i64 (.ofNat n))/\Tr.ah tm 8=.c (.ptr σ.aj 0)/\Tr.ah tm 9=.c (.ptr (σ.aj+1) 0)/\Tr.ah tm 10=.c (.ptr (σ.aj+1+1) 0)/\Tr.ah tm 11=.c (.int .i64 (.ofNat j))/\RgI σ σ' q c n j ev bs λ_=>0) n ?_ ?_) ?_
 .refine⟨0,.bg,λ_=>0,jb,jb,?_⟩
  simp(disch:=try exact jz) only[go_sem,z3,ap]
  refine⟨?_,?_,?_,.inl ⟨rfl,rfl⟩,λk hk=>jb,?_,?_⟩
  .rw[au _ _ _ _ jb,au _ _ _ _ jb,au _ _ _ _ jb,aB]
  .rw[au _ _ _ _ jb,au _ _ _ _ jb,aB]
  .rw[aB]
  .show σ.aj+1+1+1<=σ.aj+1+1+1;omega
  .exact fr
 .rintro x tm σ' ⟨j,ev,bs,rfl,hj,t7,t8,t9,t10,t11,hI⟩
  have hF:=hI.f
  have hle:=hF.le
  have hnx:=hI.nx
  have hb:=hI.b
  have ha:=hI.a
  simp(disch:=try exact jz) only[go_sem,z3,t7,t8,t9,t10,t11,aH]
  refine aJ (λhlt=>?_) (λhlt=>?_)
  .rcases hI.e with⟨rfl,rfl⟩|⟨eb,rfl,hj0,k1,k2,k3,k4⟩
   .simp(disch:=try exact jz) only[go_sem,z3,t7,t8,t9,t10,t11,ak hb,hb,ak ha,ha]
    refine⟨n-1,jb,1,_,aT bs 0 σ'.aj,rfl,jb,rfl,hI.push (nx:=σ'.aj+1+1) ?_ ?_ ?_ (λy y1 y2 y3 y4=>?_) ?_ ?_ ?_ ?_ ?_ ?_⟩
    .rw[aB]
    .rw[au _ _ _ _ jb,aB]<;>rfl
    .rw[au _ _ _ _ jb,au _ _ _ _ jb,au _ _ _ _ jb,aB]
    .rw[au _ _ _ _ jb,au _ _ _ _ jb,au _ _ _ _ jb,au _ _ _ _ jb]
    .omega
    .omega
    .omega
    .omega
    .omega
    .exact fr
   .have het:=aiC j (λ_=>0) bs
    have hel:=al0 j (λ_=>0) bs
    simp(disch:=try exact jz) only[go_sem,z3,t7,t8,t9,t10,t11,ak hb,hb,ak ha,ha,k1,het]
    refine⟨n-(j+1),jb,j+1,_,aT bs j σ'.aj,rfl,jb,rfl,hI.push (nx:=σ'.aj+1+1) ?_ ?_ ?_ (λy y1 y2 y3 y4=>?_) ?_ ?_ ?_ ?_ ?_ ?_⟩
    .rw[aB]
    .rw[au _ _ _ _ jb,aB]<;>rfl
    .rw[au _ _ _ _ jb,au _ _ _ _ jb,CS _ _ _ jb,au _ _ _ _ jb,aB]
    .have y5:=y4 eb .opn rfl
     rw[au _ _ _ _ jb,au _ _ _ _ jb,CS _ _ _ y5,au _ _ _ _ jb,au _ _ _ _ jb]
    .omega
    .omega
    .omega
    .omega
    .omega
    .exact fr
  .have:j=n:=jb
   subst this
   simp(disch:=try exact jz) only[go_sem,z3,ap]
   exact⟨ev,bs,t7,t8,t9,t10,hI⟩
 .rintro _ tm σ' ⟨rfl,ev,bs,t7,t8,t9,t10,hI⟩
  obtain⟨eb,rfl,hj0,k1,k2,k3,k4⟩:=hI.e.resolve_left jb
  have hF:=hI.f
  have hle:=hF.le
  have hnx:=hI.nx
  have hb:=hI.b
  have ha:=hI.a
  have hc:=hI.c
  have hw:=aqC hj0 c (λ_=>0) bs
  have hI1:RgI σ ⟨hset σ'.h eb ⟨dF n (rgE (aT (λ_=>0) 0 c) bs),some (5,52)⟩,σ'.aj⟩ q c n n (.sl eb 0 n .opn) bs (aT (λ_=>0) 0 c):=by refine⟨(au _ _ _ _ jb).trans ha,(au _ _ _ _ jb).trans hc,(au _ _ _ _ jb).trans hb,.inr ⟨eb,rfl,hj0,aB _ _ _,k2,k3,k4⟩,λk hk=>?_,hnx,fr⟩;obtain⟨l1,l2,l3⟩:=hI.l k hk;exact⟨(au _ _ _ _ (k4 k hk)).trans l1,l2,l3⟩
  have hb1:=hI1.b
  dsimp only at hb1
  simp(disch:=try exact jz) only[go_sem,z3,t7,t8,t9,t10,ak hb,hb,ak ha,ha,ak hc,hc,aI k1,hw,ak hb1]
  generalize (St.mk (hset σ'.h eb ⟨dF n (rgE (aT (λ_=>0) 0 c) bs),some (5,52)⟩) σ'.aj)=σ1 at hI1⊢
  have hm0:aT (λ_=>(0:Rat)) 0 c 0=c:=aS _ _ _
  have hmi:∀i,i≠0->aT (λ_=>(0:Rat)) 0 c i=0:=λi hi=>aW _ _ _ _ hi
  clear hw hI hb1
  generalize aT (λ_=>(0:Rat)) 0 c=m at hI1 hm0 hmi
  have hmC:∀i,kF 60 60 (m i)/\Sm 1000 (m i):=λi=>by
   by_cases e:i=0
   .rw[e,hm0];exact⟨hcU,hcS⟩
   .rw[hmi i e];exact⟨(Tf jj).zero,(ahC▸uZ 0).mono jj⟩
  have hG:kK (GH n m q):=aqy hs2 hs8 hqU hqS λi _=>hmC i
  have hn:(GH n m q).e.length=n:=TR
  have hcs:∀i,i<n->iG (GH n m q) i=m i:=λi hi=>by unfold iG;rw[wH hi];exact wR _
  have hg1:=hI1.grp hj0
  have hF1:=hI1.f
  have hl1:=hI1.nx
  refine(TQ (g:=GH n m q) hF1.wf hg1 hG).mono ?_
  rintro _ σ2 ⟨x,⟨rr,rfl,hV⟩,hPx,hIx,hgt,hf2⟩
  obtain⟨cm,G,Dv,Rf,Nt,Su,Re,Fu,rfl,v1,v2,v3,v4,v5,v6,v7,v8⟩:=hV
  have k1:=aZ.kn v1;have k2:=v2.kn;have k3:=v3.kn;have k4:=v4.kn;have k5:=v5.kn;have k6:=aZ.kn v6;have k7:=aZ.kn v7;have k8:=aZ.kn v8
  have b2:=hf2.get hF1.wf hI1.b
  have awV:=hf2.le
  have Zc:=Fr.refl hf2.wf
  simp(disch:=try exact jz) only[go_sem,z3,t7,t8,t9,t10,ak b2,b2,k1,k2,k3,k4,k5,k6,k7,k8]
  refine aC.st (Fr σ2) (fr) λhFa=>?_
  have auf:=hf2.trans hFa
  have q12:=aB (hset σ2.h σ2.aj ⟨[.bg,.bg,.bg,.bg,.bg,.bg,.bg,.bg],none⟩) σ2.aj ⟨[cm,G,Dv,Rf,Nt,Su,Re,Fu],none⟩
  refine(abt (g:=GH n m q) hFa.wf (hg1.fr hF1.wf auf) hG).mono ?_
  rintro _ σ3 ⟨y,⟨rr,rfl,hV⟩,hPy,hIy,hls,hf3⟩
  obtain⟨cm',G',Dv',Rf',Nt',Su',Re',Fu',rfl,w1,w2,w3,w4,w5,w6,w7,w8⟩:=hV
  have j1:=aZ.kn w1;have j2:=w2.kn;have j3:=w3.kn;have j4:=w4.kn;have j5:=w5.kn;have j6:=aZ.kn w6;have j7:=aZ.kn w7;have j8:=aZ.kn w8
  have aiy:=auf.trans hf3
  have avH:=hFa.trans hf3
  rw[hn]at v1 w1
  have b3:=aiy.get hF1.wf hI1.b
  have q3:=hf3.get hFa.wf q12
  have awW:σ2.aj+1<=σ3.aj:=hf3.le
  have agY:=Fr.refl hf3.wf
  have hlx:=aZ.len v1
  have hly:=aZ.len w1
  have hd0:decide (Int.ofNat n=Int.ofNat n)=true:=bj rfl
  have hlG:lenV (.c (.sl eb 0 n .opn))=some (.c (.int .i64 (.ofNat n))):=rfl
  simp(disch:=try exact jz) only[go_sem,z3,t7,t8,t9,t10,ak b3,b3,ak q3,q3,k1,j1,j2,j3,j4,j5,j6,j7,j8,hlx,hly,hd0,hlG]
  have a3:=aiy.get hF1.wf hI1.a
  have c3:=aiy.get hF1.wf hI1.c
  have q23:=hf3.get hFa.wf q12
  have awX:=aB (hset σ3.h σ3.aj ⟨[.bg,.bg,.bg,.bg,.bg,.bg,.bg,.bg],none⟩) σ3.aj ⟨[cm',G',Dv',Rf',Nt',Su',Re',Fu'],none⟩
  have v3':jB (Lt σ2.aj) σ3.h cm n x:=aZ.fr hf2.wf avH v1
  have avI:∀i,i<n->0<=m i:=λi _=>(hmC i).1.2.1
  have avJ:Grt (n:=n) (g:=aY (GH n m q)) m x:=by rw[hn]at hgt;exact⟨hgt.nn,λj hj=>by rw[<-hcs j hj];exact hgt.fix j hj,λy hy hp=>hgt.grt y hy λj hj=>by rw[hcs j hj];exact hp j hj⟩
  have aug:Ins.vG (n:=n) (g:=aY (GH n m q)) m y:=by rw[hn]at hls;exact⟨hls.nn,λj hj=>by rw[<-hcs j hj];exact hls.fix j hj,λy hy hp=>hls.lst y hy λj hj=>by rw[hcs j hj];exact hp j hj⟩
  have hx:∀j,j<n->x j=q+m j:=λj hj=>(aqx hq0 hj0 avI avJ hj).trans (Rat.add_comm _ _)
  obtain⟨zx,-,-⟩:=hPx.sz jj aM
  obtain⟨zy,-,-⟩:=hPy.sz jj aM
  rw[hn]at zx zy
  have hsg:(sg c=0/\∀j,j<n->y j=0)\/(sg c=1/\∀j,j<n->y j=q+m j):=by
   rcases nO c with⟨-,h⟩|⟨h,h'⟩|⟨h,h'⟩
   .exact absurd hcU.2.1 (Rat.not_le.mpr h)
   .exact .inl ⟨h,λj hj=>alV hq0 hj0 (λi _=>by by_cases e:i=0;(rw[e,hm0];exact h');exact hmi i e) aug hj⟩
   .exact .inr ⟨h,λj hj=>(alW hq0 hj0 (by rw[hm0];exact h') (λi _ hi=>hmi i hi) aug hj).trans (Rat.add_comm _ _)⟩
  refine bK.mono (Q:=λe tm σ'=>e=.exit 2/\Fr σ3 σ')
   (aF (λx tm σ'=>∃j,x=n-j/\j<=n/\Tr.ah tm 8=.c (.ptr σ.aj 0)/\Tr.ah tm 9=.c (.ptr (σ.aj+1) 0)/\Tr.ah tm 12=.c (.ptr σ2.aj 0)/\Tr.ah tm 14=.c (.ptr σ3.aj 0)/\Tr.ah tm 84=.c (.int .i64 (.ofNat n))/\Tr.ah tm 85=.c (.int .i64 (.ofNat j))/\σ'.h σ3.aj=some ⟨[cm',G',Dv',Rf',Nt',Su',Re',Fu'],none⟩/\σ3.aj+1<=σ'.aj/\Fr σ3 σ') n ?_ ?_) ?_
  .refine⟨0,jb,jb,?_⟩
   simp(disch:=try exact jz) only[go_sem,z3,t8,t9,ap]
   exact⟨jp,fr⟩
  .rintro _ tm σ' ⟨j,rfl,hj,t8,t9,t12,t14,t84,t85,p3,hl3,hf⟩
   have a':=hf.get hf3.wf a3
   have c':=hf.get hf3.wf c3
   have p2:=hf.get hf3.wf q23
   have jQ:=Fr.refl hf.wf
   simp(disch:=try exact jz) only[go_sem,z3,t8,t9,t12,t14,t84,t85,aH]
   refine aJ (λhlt=>?_) (λhlt=>?_)
   .obtain⟨b5,o5,e5,rfl,-,bP⟩:=aZ.at3 v3' hlt
    obtain⟨b6,o6,e6,rfl,-,bJ⟩:=aZ.at3 w1 hlt
    have bP:=hf.ld hf3.wf bP
    have bJ:=hf.ld hf3.wf bJ
    have y1:=zx j hlt
    have y2:=zy j hlt
    have hb5:=hf.wf.dw bP
    have hb6:=hf.wf.dw bJ
    rcases hsg with⟨hs,hy⟩|⟨hs,hy⟩
    .have hy1:sg (y j)=0:=by rw[hy j hlt];rfl
     have h00:decide ((0:Int)=Int.ofNat 0)=true:=rfl
     have h0g:decide (Int.ofNat 0<(0:Int))=false:=rfl
     by_cases e:j=0
     .have hd1:decide (j=0)=true:=bj e
      have hd2:decide (x j=q+c)=true:=bj (by rw[hx j hlt,e,hm0])
      simp(disch:=try exact jz) only[go_sem,z3,t8,t9,t12,t14,t84,t85,ak a',a',ak c',c',ak p2,p2,ak p3,p3,k1,j1,bP,bJ,hd1,hd2,hs,hy1,h00,h0g]
      exact⟨n-(j+1),jb,j+1,rfl,jb,rfl,by show _<=σ'.aj+1;omega,fr⟩
     .have hd1:decide (j=0)=false:=aw e
      have hd2:decide (x j=q)=true:=bj (by rw[hx j hlt,hmi j e,cF])
      simp(disch:=try exact jz) only[go_sem,z3,t8,t9,t12,t14,t84,t85,ak a',a',ak c',c',ak p2,p2,ak p3,p3,k1,j1,bP,bJ,hd1,hd2,hs,hy1,h00,h0g]
      exact⟨n-(j+1),jb,j+1,rfl,jb,rfl,by show _<=σ'.aj+1;omega,fr⟩
    .have h00:decide ((1:Int)=Int.ofNat 0)=false:=rfl
     have h0g:decide (Int.ofNat 0<(1:Int))=true:=rfl
     by_cases e:j=0
     .have hd1:decide (j=0)=true:=bj e
      have hd2:decide (x j=q+c)=true:=bj (by rw[hx j hlt,e,hm0])
      have hd3:decide (y j=q+c)=true:=bj (by rw[hy j hlt,e,hm0])
      simp(disch:=try exact jz) only[go_sem,z3,t8,t9,t12,t14,t84,t85,ak a',a',ak c',c',ak p2,p2,ak p3,p3,k1,j1,bP,bJ,hd1,hd2,hs,hd3,h00,h0g]
      exact⟨n-(j+1),jb,j+1,rfl,jb,rfl,by show _<=σ'.aj+1;omega,fr⟩
     .have hd1:decide (j=0)=false:=aw e
      have hd2:decide (x j=q)=true:=bj (by rw[hx j hlt,hmi j e,cF])
      have hd3:decide (y j=q)=true:=bj (by rw[hy j hlt,hmi j e,cF])
      simp(disch:=try exact jz) only[go_sem,z3,t8,t9,t12,t14,t84,t85,ak a',a',ak c',c',ak p2,p2,ak p3,p3,k1,j1,bP,bJ,hd1,hd2,hs,hd3,h00,h0g]
      exact⟨n-(j+1),jb,j+1,rfl,jb,rfl,by show _<=σ'.aj+1;omega,fr⟩
   .simp(disch:=try exact jz) only[go_sem,z3,ap]
    exact hf
  .rintro _ tm σ4 ⟨rfl,hf4⟩
   simp(disch:=try exact jz) only[go_sem,z3]
   refine(alY hf4.wf).mono ?_
   rintro _ σ6 ⟨rfl,hfw⟩
   simp(disch:=try exact jz) only[go_sem,z3]
def aiD{W:World}{nm av mv:Nat}(hnm:nm<=255)(hav:av<=65535)(hmv:mv<=65535):
  Calls Tryz.prog 11 #[.int .u8 (nm:Int),.int .u16 (av:Int),.int .u16 (mv:Int)] W λe w'=>e=.returned (.bool true)/\Below W.heap.size W w':=
 ao9 (ZA (WF.of W) hnm hav hmv) ⟨rfl,rfl,rfl,trivial⟩
end Go.Proofs.Xe
namespace Go.Proofs.Xe
open Go Go.RowKit Go.ChangeShapes Go.WideShapes Go.ChangeAt Go.Proofs.Ins Go.Proofs.YthkggcakedkboaaGreatDoor
theorem ring_lifted(os:Os)(started:os.Started)(H:Type)(enc:TypeId×Value->H):
  ReturnsInHanded {} Tryz.checked os 11 .any (λw args=>(Rows.clearingRingSpec.pre enc Tryz.prog Tryz.f11 [] false w args/\laidMetH Tryz.prog ZL w)/\sizedMet enc Tryz.prog Tryz.f11 (OpenSpec.ofChange Rows.clearingRingSpec) false w args)
   (Rows.clearingRingSpec.post enc Tryz.prog Tryz.f11 false true false false):=by
 refine returnsInHanded_of_change_and (C:=Tryz.checked) (X:=λw _=>laidMetH Tryz.prog ZL w) (λ_ _ _ hh h=>h.of_heap hh) own' started (by kernel_rfl) Tryz.func11
  (ChangeSpec.witness_shaped (enc:=enc) (C:=Tryz.checked) (os:=os) (X:=λw _=>laidMetH Tryz.prog ZL w) false (World.laidAll Tryz.prog os ZL) #[.int .u8 0,.int .u16 0,.int .u16 0] 8 (World.laidAll_os _ _ _)
   (World.shaped_of_ZipB (by kernel_rfl) (by kernel_rfl)) (by kernel_rfl) (by kernel_rfl) (by kernel_rfl)
   (by rw[MakeChecks.laidMetH_plain _ _ _ (by kernel_rfl)];exact laidMet_laidAll _ (by kernel_rfl) (by kernel_rfl))) ?_
 intro W base args ds gs before hval0 hW hc hsz hL _
 have hval:∀(j:Nat) t v,Tryz.f11.params[j]?=some t->args[j]?=some v->Value.okWide Tryz.prog W .any base t v:=hval0
 have hW':=hW
 obtain⟨p,q,hA0,hV,rfl,_,_⟩:=hW
 have hA:DataW.TrodAll enc Tryz.prog W 0 (λ_=>true) true Tryz.f11.params.toList args.toList ds p:=hA0
 have hsz1:(DataW.weightsEach Tryz.prog (Tryz.f11.params.toList++Rows.clearingRingSpec.plain.varTypes Tryz.prog) (ds++gs)).all (·<=reachBytes)=true:=hsz
 obtain⟨rfl,rfl⟩:=trodVars_none hV
 rw[Tryz.params11]at hsz1 hval hA
 clear hA0 hval0 hsz hc hL hV
 obtain⟨v1,vs1,d1,ds1,p1,q1,e1,rfl,rfl,h1,hA⟩:=trodAll_cons hA
 obtain⟨v2,vs2,d2,ds2,p2,q2,rfl,rfl,rfl,h2,hA⟩:=trodAll_cons hA
 obtain⟨v3,vs3,d3,ds3,p3,q3,rfl,rfl,rfl,h3,hA⟩:=trodAll_cons hA
 obtain⟨rfl,rfl,rfl⟩:=trodAll_nil hA
 obtain rfl:args= #[v1,v2,v3]:=by rw[<-Array.toArray_toList (xs:=args),e1]
 clear hA e1
 obtain⟨D1,rfl,b1⟩:=aup (hval 0 _ _ rfl rfl) h1
 obtain⟨D2,rfl,b2⟩:=al3 (hval 1 _ _ rfl rfl) h2
 obtain⟨D3,rfl,b3⟩:=al3 (hval 2 _ _ rfl rfl) h3
 exact ad9 rfl rfl rfl (by kernel_rfl) hW' (aiD b1 b2 b3)
end Go.Proofs.Xe
