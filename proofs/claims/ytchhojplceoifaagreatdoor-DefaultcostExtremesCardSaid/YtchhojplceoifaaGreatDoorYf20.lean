import Derived.Test.YtchhojplceoifaaGreatDoorYf19
set_option linter.all false
set_option maxRecDepth 100000
set_option maxHeartbeats 8000000
namespace Go.Proofs.Xe
open Go.RowKit Go.Proofs.Ins
def clC(l:List C5):Nat->List B:=λk=>Xb (ix l k)
def kC{α:Type}(l:List α)(b:Nat):B:=if l.length=0 then .aP else .sl b 0 l.length .opn
def iY{α:Type}{l:List α}(h:0<l.length)(b:Nat):kC l b=.sl b 0 l.length .opn:=ab jb
def Ee{α:Type}(l:List α)(b:Nat):lenV (.c (kC l b))=some (jN l.length):=by
 by_cases h:l.length=0
 .unfold kC;rw[ae h,h];rfl
 .rw[iY jb];rfl
def qC{α:Type}(l:List α)(b:Nat):(kC l b).kn=true:=by
 by_cases h:l.length=0
 .unfold kC;rw[ae h];rfl
 .rw[iY jb];rfl
def rF(m:Nat->Rat)(cl:Nat->List C5)(bs:Nat->Nat)(A:Nat->B):Nat->List B:=λi=>[.bool (rn (m i)),.str (rs (m i)),.str (rd (m i)),kC (cl i) (bs i),A i]
def Qt(lo hi eb n:Nat)(cl:Nat->List C5)(bs:Nat->Nat)(b:Nat):Prop:=lo<=b/\b<hi/\b≠eb/\∀i,i<n->0<(cl i).length->b≠bs i
structure lN(h:Tr Bk)(dv:B)(n eb:Nat)(m:Nat->Rat)(cl:Nat->List C5)(bs:Nat->Nat)(A:Nat->B)(al:Nat->List fD)(dl:List qx)(lo hi:Nat):Prop where
 e:h eb=some ⟨bC n (rF m cl bs A),some (5,60)⟩
 elo:lo<=eb
 ehi:eb<hi
 c:∀i,i<n->0<(cl i).length->h (bs i)=some ⟨bC (cl i).length (clC (cl i)),some (5,84)⟩/\lo<=bs i/\bs i<hi/\bs i≠eb
 inj:∀i j,i<n->j<n->0<(cl i).length->0<(cl j).length->bs i=bs j->i=j
 a:∀i,i<n->iG (Qt lo hi eb n cl bs) h (A i) (al i)
 d:jK (Qt lo hi eb n cl bs) h dv dl
def gu(n:Nat)(m:Nat->Rat)(cl:Nat->List C5)(al:Nat->List fD):List vP:=(List.range n).map λi=>⟨mP (m i),cl i,al i⟩
def jD(n:Nat)(m:Nat->Rat)(cl:Nat->List C5)(al:Nat->List fD):(gu n m cl al).length=n:=by unfold gu;simp
def je{n:Nat}(m:Nat->Rat)(cl:Nat->List C5)(al:Nat->List fD){i:Nat}(h:i<n):ix (gu n m cl al) i=⟨mP (m i),cl i,al i⟩:=by rw[dU (by rw[jD];exact h)];unfold gu;simp
section
variable {h h' : Tr Bk} {dv:B} {n eb:Nat} {m:Nat→Rat} {cl:Nat→List C5} {bs:Nat→Nat} {A:Nat→B} {al:Nat→List fD} {dl:List qx} {lo hi:Nat}
def iG.kn{p:Nat->Prop}{v:B}{l:List fD}(hl:iG p h v l):v.kn=true:=hl.choose_spec.1.kn
def jK.kn{p:Nat->Prop}{v:B}{l:List qx}(hl:jK p h v l):v.kn=true:=hl.choose_spec.1.kn
def DT.kn{p:Nat->Prop}{v:B}{l:List vP}(hl:DT p h v l):v.kn=true:=hl.choose_spec.choose_spec.1.kn
def lN.ekn(ho:lN h dv n eb m cl bs A al dl lo hi)(i:Nat)(hi':i<n):(rF m cl bs A i).all B.kn=true:=by unfold rF;simp only[cD,dj,qC,(ho.a i hi').kn,vk,Ac,cU]
def lN.ldE(ho:lN h dv n eb m cl bs A al dl lo hi){i:Nat}(hi':i<n):ld h eb (0+i*5) 5 true=some (.agg (rF m cl bs A i)):=
 abo ho.e rfl (λ_=>rfl) jj ho.ekn hi'
def lN.ldC(ho:lN h dv n eb m cl bs A al dl lo hi){i:Nat}(hi':i<n):ld h eb (i*5+3) 1 false=some (.c (kC (cl i) (bs i))):=by have:=yu (ho.ldE hi') 3 1 false jj jj;rw[cL]at this;rw[this];unfold rF zW;simp[qC]
def lN.ldA(ho:lN h dv n eb m cl bs A al dl lo hi){i:Nat}(hi':i<n):ld h eb (i*5+4) 1 false=some (.c (A i)):=by have:=yu (ho.ldE hi') 4 1 false jj jj;rw[cL]at this;rw[this];unfold rF zW;simp[(ho.a i hi').kn]
def lN.grp(ho:lN h dv n eb m cl bs A al dl lo hi)(c:Cap):qy (λb=>lo<=b/\b<hi) h (.sl eb 0 n c) dv ⟨gu n m cl al,dl⟩:=by
 refine⟨⟨λi=>kC (cl i) (bs i),A,?_,λi hi'=>?_⟩,ho.d.keep (λ_ _=>rfl) λb hb=>⟨hb.1,hb.2.1⟩⟩
 .have h1:aX (λb=>lo<=b/\b<hi) h 5 (.sl eb 0 n c) n (rF m cl bs A):=bD c ho.e rfl ⟨ho.elo,ho.ehi⟩ (λ_=>rfl) jj ho.ekn;have e:(gu n m cl al).length=n:=jD ..;show aX _ h 5 _ (gu n m cl al).length _;rw[e];exact h1.congr λi hi'=>by rw[je m cl al hi'];rfl
 .have hi':i<n:=by rw[<-jD n m cl al];exact hi'
  show oN _ h (kC (cl i) (bs i)) (ix (gu n m cl al) i).c/\iG _ h (A i) (ix (gu n m cl al) i).a;rw[je m cl al hi'];refine⟨?_,(ho.a i hi').keep (λ_ _=>rfl) λb hb=>⟨hb.1,hb.2.1⟩⟩;by_cases h0:(cl i).length=0
  .exact .inl ⟨h0,by unfold kC;rw[ae h0]⟩
  .obtain⟨k1,k2,k3,-⟩:=ho.c i hi' jb;rw[iY jb];exact bD _ k1 rfl ⟨k2,k3⟩ (λ_=>rfl) jj λ_ _=>rfl
def Qt.keep{cl':Nat->List C5}(hc:∀i,i<n->(cl' i).length=(cl i).length){b:Nat}(hq:Qt lo hi eb n cl bs b):Qt lo hi eb n cl' bs b:=
 ⟨hq.1,hq.2.1,hq.2.2.1,λi h1 h2=>hq.2.2.2 i h1 (by rw[<-hc i h1];exact h2)⟩
def lN.mono(ho:lN h dv n eb m cl bs A al dl lo hi)(hh:∀b,lo<=b->b<hi->h' b=h b){hi':Nat}(h2:hi<=hi'):lN h' dv n eb m cl bs A al dl lo hi' where
 e:=by rw[hh eb ho.elo ho.ehi];exact ho.e
 elo:=ho.elo
 ehi:=aM ho.ehi h2
 c:=λi h1 h3=>by obtain⟨k1,k2,k3,k4⟩:=ho.c i h1 h3;exact⟨by rw[hh _ k2 k3];exact k1,k2,jb,k4⟩
 inj:=ho.inj
 a:=λi h1=>(ho.a i h1).keep (λb hb=>hh b hb.1 hb.2.1) λb hb=>⟨hb.1,aM hb.2.1 h2,hb.2.2⟩
 d:=ho.d.keep (λb hb=>hh b hb.1 hb.2.1) λb hb=>⟨hb.1,aM hb.2.1 h2,hb.2.2⟩
def lN.atf(ho:lN h dv n eb m cl bs A al dl lo hi){i k:Nat}(hi':i<n)(hk:k<(cl i).length)(x:C5){cells:List B}(hc:cells=bC (cl i).length (iR (clC (cl i)) k (Xb x))):
  lN (hset h (bs i) ⟨cells,some (5,84)⟩) dv n eb m (aN cl i ((cl i).set k x)) bs A al dl lo hi:=by
 have hpos:0<(cl i).length:=jb
 obtain⟨k1,k2,k3,k4⟩:=ho.c i hi' hpos
 have hlen:∀j,j<n->(aN cl i ((cl i).set k x) j).length=(cl j).length:=λj _=>by
  unfold aN;split
  .next e=>rw[jn,e]
  .rfl
 have aw6:∀j,kC (aN cl i ((cl i).set k x) j) (bs j)=kC (cl j) (bs j):=λj=>by
  unfold aN;split
  .next e=>unfold kC;rw[jn,e]
  .rfl
 refine⟨?_,ho.elo,ho.ehi,λj hj hp=>?_,λa b ha hb pa pb e=>ho.inj a b ha hb (by rw[<-hlen a ha];exact pa) (by rw[<-hlen b hb];exact pb) e,λj hj=>?_,?_⟩
 .rw[ak _ _ _ _ (Ne.symm k4),ho.e]
  congr 2
  refine bH λj _=>?_
  unfold rF
  rw[aw6]
 .rw[hlen j hj]at hp
  by_cases e:j=i
  .subst e
   rw[aA,hlen j hj,hc]
   refine⟨?_,k2,k3,k4⟩
   congr 2
   refine bH λa ha=>?_
   unfold iR clC
   rw[aK]
   unfold ix
   rw[cG,cG,List.getElem?_set]
   by_cases e2:a=k
   .subst e2
    rw[ae rfl,ae rfl,ae ha];rfl
   .rw[ab e2,ab (Ne.symm e2)]
  .obtain⟨j1,j2,j3,j4⟩:=ho.c j hj hp
   rw[ak _ _ _ _ (λe2=>e (ho.inj j i hj hi' hp hpos e2)),aS _ _ _ _ e]
   exact⟨j1,j2,j3,j4⟩
 .exact(ho.a j hj).keep (λb hb=>ak _ _ _ _ (hb.2.2.2 i hi' hpos)) λb hb=>hb.keep hlen
 .exact ho.d.keep (λb hb=>ak _ _ _ _ (hb.2.2.2 i hi' hpos)) λb hb=>hb.keep hlen
end
def Gi(l l':List C5):Prop:=l'.length=l.length/\∀k,k<l.length->(ix l' k).h=(ix l k).h/\(ix l' k).a=(ix l k).a/\((ix l' k).r=(ix l k).r\/(ix l' k).r=6\/(ix l' k).r=7)
theorem Gi.refl(l:List C5):Gi l l:=⟨rfl,λ_ _=>⟨rfl,rfl,.inl rfl⟩⟩
def Gi.set{l l':List C5}(hl:Gi l l'){k:Nat}{r:Int}(hr:r=6\/r=7):Gi l (l'.set k ⟨(ix l' k).h,r,(ix l' k).a⟩):=by
 refine⟨by rw[jn];exact hl.1,λj hj=>?_⟩;have h1:=hl.2 j hj;have h0:=hl.1;by_cases e:j=k
 .subst e;rw[show ix (l'.set j ⟨(ix l' j).h,r,(ix l' j).a⟩) j=⟨(ix l' j).h,r,(ix l' j).a⟩ by unfold ix;rw[cG,List.getElem?_set];simp[show j<l'.length by omega]]
  exact⟨h1.1,h1.2.1,.inr hr⟩
 .rw[show ix (l'.set k ⟨(ix l' k).h,r,(ix l' k).a⟩) j=ix l' j by unfold ix;rw[cG,List.getElem?_set,ab (Ne.symm e),cG]]
  exact h1
section
variable {h h' : Tr Bk} {dv:B} {n eb:Nat} {m:Nat→Rat} {cl:Nat→List C5} {bs:Nat→Nat} {A:Nat→B} {al:Nat→List fD} {dl:List qx} {lo hi:Nat}
def ajj(l:List C5){k:Nat}(hk:k<l.length)(r:Int):yS (bC l.length (clC l)) (k*5+1) [.int .i64 r]=some (bC l.length (iR (clC l) k (Xb ⟨(ix l k).h,r,(ix l k).a⟩))):=by rw[yt (e:=5) (λ_=>rfl) hk kc];rfl
def ath{σ0 σ:St}(hW:WF σ)(hf0:Fr σ0 σ)(ho:lN σ.h dv n eb m cl bs A al dl lo hi)(hlo:σ0.aj<=lo)(hhi:hi<=σ.aj)(hn:n<=1000)(hcl:∀i,i<n->(cl i).length<=1000)(bits:Nat)(aw7:bits<=65535):
  aC EN 69 [.agg [.sl eb 0 n .opn,dv],.c (.int .u16 (.ofNat bits))] σ λr σ'=>r=.agg [.sl eb 0 n .opn,dv]/\(∃cl',lN σ'.h dv n eb m cl' bs A al dl lo hi/\∀i,i<n->Gi (cl i) (cl' i))/\Fr σ0 σ'/\σ.aj<=σ'.aj:=by
 refine aO (JQ.o _ _) JQ.h ?_
 unfold JQ
 dsimp only
 have hdk:=ho.d.kn
 have hle0:=hf0.le
 simp(disch:=try exact jz) only[go_sem,hdk]
 have hlt:∀b,lo<=b->b<hi->b<σ.aj:=λb _ hb=>jb
 refine aF (λq tm σ'=>∃i k cl',q=n-i/\i<=n/\k<=i*1000/\Tr.ah tm 1=.c (.int .u16 (.ofNat bits))/\Tr.ah tm 2=.c (.ptr σ.aj 0)/\Tr.ah tm 4=.c (.ptr (σ.aj+1) 0)/\Tr.ah tm 5=jN k/\Tr.ah tm 10=jN n/\Tr.ah tm 11=jN i
  /\σ'.h σ.aj=some ⟨[.sl eb 0 n .opn,dv],none⟩/\σ'.h (σ.aj+1)=some ⟨[.aP,.aP],none⟩/\lN σ'.h dv n eb m cl' bs A al dl lo hi/\(∀i,i<n->Gi (cl i) (cl' i))/\Fr σ0 σ'/\σ.aj+2<=σ'.aj) n ?_ ?_
 .refine⟨0,0,cl,jb,jb,jb,?_⟩
  simp(disch:=try exact jz) only[go_sem,am]
  refine⟨?_,λi _=>Gi.refl _,?_,jb⟩
  .exact ho.mono (λb h1 h2=>by have:=hlt b h1 h2;rw[ak _ _ _ _ jb,ak _ _ _ _ jb]) jp
  .exact fr
 .rintro q tm σ' ⟨i,k,cl',rfl,hi',hk,t1,t2,t4,t5,t10,t11,q1,q2,ho',hL,hf,hn2⟩
  simp(disch:=try exact jz) only[go_sem,t1,t2,t4,t5,t10,t11,aG]
  refine aH (λhlt2=>?_) (λhlt2=>?_)
  .have Yv:=ho'.ldC hlt2
   have hfl:=Ee (cl' i) (bs i)
   have hfk:=qC (cl' i) (bs i)
   simp(disch:=try exact jz) only[go_sem,t1,t2,t4,t5,t10,t11,au q1,hdk,Yv,hfl]
   refine aF (λq tm σ3=>∃c k cl3,q=(cl' i).length-c/\c<=(cl' i).length/\k<=i*1000+c/\Tr.ah tm 1=.c (.int .u16 (.ofNat bits))/\Tr.ah tm 2=.c (.ptr σ.aj 0)/\Tr.ah tm 4=.c (.ptr (σ.aj+1) 0)/\Tr.ah tm 5=jN k/\Tr.ah tm 6=jN i/\Tr.ah tm 10=jN n/\Tr.ah tm 11=jN i
    /\Tr.ah tm 20=jN (cl' i).length/\Tr.ah tm 21=jN c
    /\σ3.h σ.aj=some ⟨[.sl eb 0 n .opn,dv],none⟩/\σ3.h (σ.aj+1)=some ⟨[.aP,.aP],none⟩/\lN σ3.h dv n eb m cl3 bs A al dl lo hi/\(∀i,i<n->Gi (cl i) (cl3 i))/\(cl3 i).length=(cl' i).length/\Fr σ0 σ3/\σ.aj+2<=σ3.aj) (cl' i).length ?_ ?_
   .refine⟨0,k,cl',jb,jb,jb,?_⟩
    simp(disch:=try exact jz) only[go_sem,t1,t2,t4,t5,t10,t11,am]
    exact⟨q1,q2,ho',hL,hf,hn2⟩
   .rintro q tm3 σ3 ⟨c,k3,cl3,rfl,hc,hk3,t1,t2,t4,t5,t6,t10,t11,t20,t21,q1,q2,ho3,hL3,hl3,hf3,hn3⟩
    have hci:(cl' i).length<=1000:=by rw[(hL i hlt2).1];exact hcl i hlt2
    have hib:i*1000<=1000000:=by have:=bp 1000 (show i<=1000 by omega);omega
    simp(disch:=try exact jz) only[go_sem,t1,t2,t4,t5,t6,t10,t11,t20,t21,aG]
    refine aH (λhlc=>?_) (λhlc=>?_)
    .have ati:=ho3.ldC hlt2
     rw[iY jb]at ati
     have hpos:0<(cl3 i).length:=jb
     obtain⟨b1,b2,b3,b4⟩:=ho3.c i hlt2 hpos
     have hmod:k3%8<8:=di _ jj
     have hk4:k3<=2000000:=jb
     have hq0:=xA bits (2^min (2*(k3%8)) 16) 65535 aw7
     simp(disch:=try exact jz) only[go_sem,t1,t2,t4,t5,t6,t10,t11,t20,t21]
     refine aH (λhq=>?_) (λhq=>?_)
     .have hw:=ajj (cl3 i) (k:=c) jb (.ofNat 6)
      have hlb:bs i<σ3.aj:=jb
      simp(disch:=try exact jz) only[go_sem,t1,t2,t4,t5,t6,t10,t11,t20,t21,au q1,hdk,ati,aI b1,hw]
      refine⟨(cl' i).length-(c+1),jb,c+1,k3+1,_,rfl,jb,jb,rfl,rfl,?_,?_,ho3.atf hlt2 jb _ rfl,?_,?_,?_,jb⟩
      .exact q1
      .exact q2
      .intro j hj
       unfold aN
       split
       .next e=>subst e;exact(hL3 j hj).set (.inl rfl)
       .exact hL3 j hj
      .rw[aK,jn];exact hl3
      .exact fr
     .simp(disch:=try exact jz) only[go_sem,t1,t2,t4,t5,t6,t10,t11,t20,t21]
      refine aH (λhq2=>?_) (λhq2=>?_)
      .have hw:=ajj (cl3 i) (k:=c) jb (.ofNat 7)
       have hlb:bs i<σ3.aj:=jb
       simp(disch:=try exact jz) only[go_sem,t1,t2,t4,t5,t6,t10,t11,t20,t21,au q1,hdk,ati,aI b1,hw]
       refine⟨(cl' i).length-(c+1),jb,c+1,k3+1,_,rfl,jb,jb,rfl,rfl,?_,?_,ho3.atf hlt2 jb _ rfl,?_,?_,?_,jb⟩
       .exact q1
       .exact q2
       .intro j hj
        unfold aN
        split
        .next e=>subst e;exact(hL3 j hj).set (.inr rfl)
        .exact hL3 j hj
       .rw[aK,jn];exact hl3
       .exact fr
      .simp(disch:=try exact jz) only[go_sem,t1,t2,t4,t5,t6,t10,t11,t20,t21]
       exact⟨(cl' i).length-(c+1),jb,c+1,k3+1,cl3,rfl,jb,jb,rfl,rfl,q1,q2,ho3,hL3,hl3,hf3,jb⟩
    .have:c=(cl' i).length:=jb
     subst this
     simp(disch:=try exact jz) only[go_sem,t1,t2,t4,t5,t6,t10,t11,t20,t21]
     exact⟨n-(i+1),jb,i+1,k3,cl3,rfl,jb,jb,rfl,rfl,q1,q2,ho3,hL3,hf3,hn3⟩
  .have:i=n:=jb
   subst this
   simp(disch:=try exact jz) only[go_sem,t2,t4,au q1,hdk,aI q2]
   refine⟨⟨cl',ho'.mono (λb h1 h2=>?_) jp,hL⟩,?_⟩
   .have:=hlt b h1 h2
    rw[ak _ _ _ _ jb]
   .exact⟨fr,jb⟩
end
def ade{E:Env}{a b:AC}{tm:Tr V}{σ:St}{Q:AX->Tr V->St->Prop}(M:Tr V->St->Prop)(h1:bM E a tm σ λe tm σ=>e=.normal/\M tm σ)(h2:∀tm' σ',M tm' σ'->bM E b tm' σ' Q):bM E (.seq a b) tm σ Q:=
 run_seq (h1.mono λe tm σ' ⟨he,hm⟩=>by subst he;exact h2 _ _ hm)
structure LJ{α:Type}[Inhabited α](h:Tr Bk)(n:Nat)(c:α->List B)(e ty:Nat)(L:Nat->List α)(bs:Nat->Nat)(lo hi:Nat):Prop where
 blk:∀i,i<n->0<(L i).length->h (bs i)=some ⟨bC (L i).length (λk=>c (ix (L i) k)),some (e,ty)⟩/\lo<=bs i/\bs i<hi
 inj:∀i j,i<n->j<n->0<(L i).length->0<(L j).length->bs i=bs j->i=j
section
variable {α:Type} [Inhabited α] {h h' : Tr Bk} {n e ty lo hi:Nat} {c:α→List B} {L:Nat→List α} {bs:Nat→Nat}
theorem LJ.nil(h:Tr Bk)(n:Nat)(c:α->List B)(e ty:Nat)(bs:Nat->Nat)(lo hi:Nat):LJ h n c e ty (λ_=>[]) bs lo hi:=⟨λi _ h=>by simp at h,λi j _ _ h=>by simp at h⟩
def LJ.mono(hf:LJ h n c e ty L bs lo hi)(hh:∀b,lo<=b->b<hi->h' b=h b){hi':Nat}(h2:hi<=hi'):LJ h' n c e ty L bs lo hi':=
 ⟨λi hi hp=>by obtain⟨k1,k2,k3⟩:=hf.blk i hi hp;exact⟨by rw[hh _ k2 k3];exact k1,k2,jb⟩,hf.inj⟩
theorem gW(l:List α)(x:α){k:Nat}(h:k<l.length):ix (l++[x]) k=ix l k:=by rw[Tj,ae h]
theorem gX(l:List α)(x:α):ix (l++[x]) l.length=x:=by rw[Tj,ab jb,ae rfl]
def LJ.push(hf:LJ h n c e ty L bs lo hi){i nx:Nat}(hi':i<n)(x:α){cells:List B}(hc:cells=bC (L i).length (λk=>c (ix (L i) k))++c x)(h1:h' nx=some ⟨cells,some (e,ty)⟩)
  (hh:∀j,j<n->j≠i->0<(L j).length->h' (bs j)=h (bs j)) (hlo:lo<=nx) (hnx:hi<=nx){hi2:Nat}(h2:nx<hi2):LJ h' n c e ty (aN L i (L i++[x])) (aN bs i nx) lo hi2:=by
 refine⟨λj hj hp=>?_,λa b ha hb pa pb e=>?_⟩
 .by_cases e:j=i
  .subst e
   rw[aK,aK,aD,bZ]
   refine⟨?_,hlo,h2⟩
   rw[h1,hc,jw]
   congr 2
   refine bH λk hk=>?_
   unfold iR
   split
   .next e=>rw[e,gX]
   .rw[gW _ _ jb]
  .rw[aS _ _ _ _ e]at hp⊢
   rw[aS _ _ _ _ e]
   obtain⟨k1,k2,k3⟩:=hf.blk j hj hp
   exact⟨by rw[hh j hj e hp];exact k1,k2,jb⟩
 .by_cases e1:a=i
  .by_cases e2:b=i
   .rw[e1,e2]
   .rw[e1,aK,aS _ _ _ _ e2]at e
    rw[aS _ _ _ _ e2]at pb
    have:=(hf.blk b hb pb).2.2
    omega
  .by_cases e2:b=i
   .rw[e2,aK,aS _ _ _ _ e1]at e
    rw[aS _ _ _ _ e1]at pa
    have:=(hf.blk a ha pa).2.2
    omega
   .rw[aS _ _ _ _ e1]at pa
    rw[aS _ _ _ _ e2]at pb
    rw[aS _ _ _ _ e1,aS _ _ _ _ e2]at e
    exact hf.inj a b ha hb pa pb e
def LJ.hlp(hf:LJ h n c e ty L bs lo hi){p:Nat->Prop}(hp:∀b,lo<=b->b<hi->p b)(hc:∀x,(c x).length=e)(he:0<e)(hk:∀x,(c x).all B.kn=true){i:Nat}(hi':i<n):aX p h e (kC (L i) (bs i)) (L i).length λk=>c (ix (L i) k):=by
 by_cases h0:(L i).length=0
 .exact .inl ⟨h0,by unfold kC;rw[ae h0]⟩
 .obtain⟨k1,k2,k3⟩:=hf.blk i hi' jb;rw[iY jb];exact bD _ k1 (by rw[CQ _ _ jb]) (hp _ k2 k3) (λ_=>hc _) he λ_ _=>hk _
end
def iG.lt{σ:St}(hW:WF σ){p:Nat->Prop}{v:B}{l:List fD}(hl:iG p σ.h v l):iG (Lt σ.aj) σ.h v l:=by obtain⟨T,k1,k2⟩:=hl;refine⟨T,k1.lt hW,λj hj=>?_⟩;obtain⟨U,m1,m2⟩:=k2 j hj;exact⟨U,m1.lt hW,λl hl=>(m2 l hl).lt hW⟩
theorem iG.fr{σ σ':St}(hW:WF σ)(hf:Fr σ σ'){p:Nat->Prop}{v:B}{l:List fD}(hl:iG p σ.h v l):iG (Lt σ.aj) σ'.h v l:=(hl.lt hW).keep hf.lt λ_ h=>h
def ajk(al:List fD)(c:Int):Prop:=∀j,j<al.length->∀t,t<(ix al j).length->∀p,p<(ix (ix al j) t).length->(ix (ix (ix al j) t) p).k≠c
def atj(al:List fD):Prop:=al.length<=1000/\∀j,j<al.length->(ix al j).length<=1000/\∀t,t<(ix al j).length->(ix (ix al j) t).length<=1000
def atl{σ:St}(hW:WF σ){p:Nat->Prop}{x1 x2 x3 C A:B}(al:List fD)(hA:iG p σ.h A al)(hl:atj al)(h1:x1.kn=true)(h2:x2.kn=true)(h3:x3.kn=true)(h4:C.kn=true)(c:Int):
  aC EN 80 [.agg [x1,x2,x3,C,A],.c (.int .i64 c)] σ λr σ'=>(∃b,r=.c (.bool b)/\(b=true->ajk al c))/\Fr σ σ':=by
 refine aO (JR.o _ _) JR.h ?_
 unfold JR
 dsimp only
 obtain⟨T,hT,hT2⟩:=hA
 have hlen:=hT.len
 have hkn:=hT.kn
 simp(disch:=try exact jz) only[go_sem,hkn,hlen]
 refine aF (λq tm σ'=>∃j,q=al.length-j/\j<=al.length/\Tr.ah tm 1=.c (.int .i64 c)/\Tr.ah tm 12=.c A/\Tr.ah tm 13=jN al.length/\Tr.ah tm 14=jN j
  /\(∀j',j'<j->∀t,t<(ix al j').length->∀p,p<(ix (ix al j') t).length->(ix (ix (ix al j') t) p).k≠c)/\Fr σ σ') al.length ?_ ?_
 .refine⟨0,jb,jb,?_⟩
  simp(disch:=try exact jz) only[go_sem,am]
  exact⟨λj hj=>jb,fr⟩
 .rintro q tm σ' ⟨j,rfl,hj,t1,t12,t13,t14,hfree,hf⟩
  have hle:=hf.le
  have hl0:=hl.1
  simp(disch:=try exact jz) only[go_sem,t1,t12,t13,t14,aG]
  refine aH (λhlt=>?_) (λhlt=>?_)
  .obtain⟨b,o,cc,rfl,-,hld⟩:=hT.pos jb
   have hld:=hf.ld hW (hld j hlt)
   have hlk:=(sU hld).2
   have hTj:=hT2 j hlt
   obtain⟨hlj,azs⟩:=hl.2 j hlt
   generalize hag:ix al j=ag at*
   obtain⟨U,hU,hU2⟩:=hTj
   have ajl:=hU.len
   simp(disch:=try exact jz) only[go_sem,t1,t12,t13,t14,hld,hlk,ajl]
   refine aF (λq tm σ3=>∃t,q=ag.length-t/\t<=ag.length/\Tr.ah tm 1=.c (.int .i64 c)/\Tr.ah tm 12=.c (.sl b o al.length cc)/\Tr.ah tm 13=jN al.length/\Tr.ah tm 14=jN j
    /\Tr.ah tm 19=.c (T j)/\Tr.ah tm 20=jN ag.length/\Tr.ah tm 21=jN t
    /\(∀t',t'<t->∀p,p<(ix ag t').length->(ix (ix ag t') p).k≠c)/\Fr σ σ3) ag.length ?_ ?_
   .refine⟨0,jb,jb,?_⟩
    simp(disch:=try exact jz) only[go_sem,t1,t12,t13,t14,am]
    exact⟨λt ht=>jb,fr⟩
   .rintro q tm3 σ3 ⟨t,rfl,ht,t1,t12,t13,t14,t19,t20,t21,ajm,hf3⟩
    simp(disch:=try exact jz) only[go_sem,t1,t12,t13,t14,t19,t20,t21,aG]
    refine aH (λhlt3=>?_) (λhlt3=>?_)
    .obtain⟨b3,o3,c3,e3,-,uT⟩:=hU.pos jb
     have uT:=hf3.ld hW (uT t hlt3)
     have uT:=(sU uT).1
     have hPt:=hU2 t hlt3
     have hlt4:=azs t hlt3
     generalize hti:ix ag t=ti at*
     have I4:=hPt.len
     rw[e3]at t19
     simp(disch:=try exact jz) only[go_sem,t1,t12,t13,t14,t19,t20,t21,uT,I4]
     refine aF (λq tm σ5=>∃k,q=ti.length-k/\k<=ti.length/\Tr.ah tm 1=.c (.int .i64 c)/\Tr.ah tm 12=.c (.sl b o al.length cc)/\Tr.ah tm 13=jN al.length/\Tr.ah tm 14=jN j
      /\Tr.ah tm 19=.c (.sl b3 o3 ag.length c3)/\Tr.ah tm 20=jN ag.length/\Tr.ah tm 21=jN t
      /\Tr.ah tm 25=.c (U t)/\Tr.ah tm 26=jN ti.length/\Tr.ah tm 27=jN k
      /\(∀p,p<k->(ix ti p).k≠c)/\Fr σ σ5) ti.length ?_ ?_
     .refine⟨0,jb,jb,?_⟩
      simp(disch:=try exact jz) only[go_sem,t1,t12,t13,t14,t19,t20,t21,am]
      exact⟨λt ht=>jb,hf3⟩
     .rintro q tm5 σ5 ⟨k,rfl,hk,t1,t12,t13,t14,t19,t20,t21,t25,t26,t27,ajn,hf5⟩
      simp(disch:=try exact jz) only[go_sem,t1,t12,t13,t14,t19,t20,t21,t25,t26,t27,aG]
      refine aH (λan3=>?_) (λan3=>?_)
      .obtain⟨b5,o5,c5,e5,-,bf⟩:=hPt.pos jb
       have bf:=hf5.ld hW (bf k an3)
       unfold Ae at bf
       rw[e5]at t25
       have uU:=hf5.le
       simp(disch:=try exact jz) only[go_sem,t1,t12,t13,t14,t19,t20,t21,t25,t26,t27,bf]
       refine aH (λhq=>?_) (λhq=>?_)
       .simp(disch:=try exact jz) only[go_sem,t1]
        exact⟨⟨_,rfl,λh=>by cases h⟩,fr⟩
       .simp(disch:=try exact jz) only[go_sem,t1,t12,t13,t14,t19,t20,t21,t25,t26,t27]
        refine⟨ti.length-(k+1),jb,k+1,rfl,jb,by rw[e5],rfl,λp hp=>?_,fr⟩
        by_cases e:p=k
        .rw[e];exact hq
        .exact ajn p jb
      .have:k=ti.length:=jb
       subst this
       simp(disch:=try exact jz) only[go_sem,t1,t12,t13,t14,t19,t20,t21]
       refine⟨ag.length-(t+1),jb,t+1,rfl,jb,by rw[e3],rfl,λt' ht'=>?_,hf5⟩
       by_cases e:t'=t
       .rw[e,hti];exact ajn
       .exact ajm t' jb
    .have:t=ag.length:=jb
     subst this
     simp(disch:=try exact jz) only[go_sem,t1,t12,t13,t14]
     refine⟨al.length-(j+1),jb,j+1,rfl,jb,rfl,λj' hj'=>?_,hf3⟩
     by_cases e:j'=j
     .rw[e,hag];exact ajm
     .exact hfree j' jb
  .have:j=al.length:=jb
   subst this
   simp(disch:=try exact jz) only[go_sem,t1]
   exact⟨⟨_,rfl,λ_=>hfree⟩,hf⟩
def TB(nc:Nat)(al:List fD)(x:yw):Prop:=((x.k=-1/\x.b=true)\/∃i:Nat,i<nc/\x.k=(i:Int)/\ajk al x.k)/\∃w:Nat,w<=16/\x.a=mP ((Int.ofNat w:Int):Rat)
def Gj(nc:Nat)(al:List fD)(t:List yw):Prop:=∀k,k<t.length->TB nc al (ix t k)
def Gj.snoc{nc:Nat}{al:List fD}{t:List yw}{x:yw}(h:Gj nc al t)(hx:TB nc al x):Gj nc al (t++[x]):=λk hk=>by
 rw[aD,bZ]at hk;by_cases e:k=t.length
 .rw[e,gX];exact hx
 .rw[gW _ _ jb];exact h k jb
structure TI(σ σ':St)(tb i nc:Nat)(al:List fD)(ts:Nat->List yw)(bs:Nat->Nat):Prop where
 b:σ'.h tb=some ⟨ones 3 (λt=>kC (ts t) (bs t)),none⟩
 f:LJ σ'.h 3 Ae 5 126 ts bs (tb+1) σ'.aj
 g:∀t,t<3->Gj nc al (ts t)
 l:∀t,t<3->(ts t).length<=i
 n:tb+1<=σ'.aj
 fr:Fr σ σ'
def afK(ts:Nat->List yw)(bs:Nat->Nat)(t nx:Nat)(x:yw):(λj=>kC (aN ts t (ts t++[x]) j) (aN bs t nx j))=aN (λj=>kC (ts j) (bs j)) t (.sl nx 0 ((ts t).length+1) .opn):=by
 funext j;unfold aN;split
 .next e=>rw[iY kc,aD];rfl
 .rfl
def adf(l:List yw):l.length*5<=(bC l.length (λk=>Ae (ix l k))).length:=by rw[qB (e:=5) λ_=>rfl];exact jp
def Yw(l:List yw):(bC l.length (λk=>Ae (ix l k))).take (l.length*5)=bC l.length (λk=>Ae (ix l k)):=jC λ_=>rfl
section
variable {σ σ' : St} {tb i nc:Nat} {al:List fD} {ts:Nat→List yw} {bs:Nat→Nat}
def TI.step(hT:TI σ σ' tb i nc al ts bs){σ3:St}(hf:Fr σ' σ3):TI σ σ3 tb (i+1) nc al ts bs:=by have hn:=hT.n;have hle:=hf.le;exact⟨by rw[hf.old _ jb];exact hT.b,hT.f.mono (λb _ hb=>hf.old b hb) hle,hT.g,λt ht=>by have:=hT.l t ht;omega,jb,hT.fr.trans hf⟩
def TI.push(hT:TI σ σ' tb i nc al ts bs){t nx n':Nat}{x:yw}{h':Tr Bk}(ht:t<3)(hg:TB nc al x)(hb:h' tb=some ⟨ones 3 (aN (λj=>kC (ts j) (bs j)) t (.sl nx 0 ((ts t).length+1) .opn)),none⟩)
  (hx:h' nx=some ⟨bC (ts t).length (λk=>Ae (ix (ts t) k))++Ae x,some (5,126)⟩) (ho:∀b,tb+1<=b->b<σ'.aj->(0<(ts t).length->b≠bs t)->h' b=σ'.h b) (hn:σ'.aj<=nx) (hn':nx<n') (hf:Fr σ ⟨h',n'⟩):
  TI σ ⟨h',n'⟩ tb (i+1) nc al (aN ts t (ts t++[x])) (aN bs t nx):=by
 have hn0:=hT.n
 refine⟨?_,?_,λj hj=>?_,λj hj=>?_,by show tb+1<=n';omega,hf⟩
 .rw[afK];exact hb
 .refine hT.f.push ht x rfl hx (λj hj e hp=>?_) jb hn hn'
  obtain⟨-,k2,k3⟩:=hT.f.blk j hj hp
  exact ho _ k2 k3 λhp2 e2=>e (hT.f.inj j t hj ht hp hp2 e2)
 .unfold aN
  split
  .next e=>exact(hT.g t ht).snoc hg
  .exact hT.g j hj
 .unfold aN
  split
  .next e=>rw[aD,bZ];have:=hT.l t ht;omega
  .have:=hT.l j hj;omega
end
def aX.plt{σ:St}(hW:WF σ){p:Nat->Prop}{e n:Nat}{v:B}{G:Nat->List B}(hl:aX p σ.h e v n G):aX (λb=>p b/\b<σ.aj) σ.h e v n G:=by
 rcases hl with h|⟨b,o,c,h1,h2,h3⟩
 .exact .inl h
 .exact .inr ⟨b,o,c,h1,λh=>⟨h2 h,hW.dA (h3 0 h)⟩,h3⟩
def dP.plt{σ:St}(hW:WF σ){p:Nat->Prop}{v:B}{l:fD}(hl:dP p σ.h v l):dP (λb=>p b/\b<σ.aj) σ.h v l:=by obtain⟨T,k1,k2⟩:=hl;exact⟨T,k1.plt hW,λj hj=>(k2 j hj).plt hW⟩
def agree_end{σ σ':St}{tb i nc:Nat}{al:List fD}{ts:Nat->List yw}{bs:Nat->Nat}(hW:WF σ){p:Nat->Prop}{T:Nat->B}(hT2:∀j,j<al.length->dP p σ.h (T j) (ix al j))(Rl:∀j,j<al.length->(T j).kn=true)(hT:TI σ σ' tb i nc al ts bs)(hi:i<=nc+1)(htb:σ.aj<=tb)
  {h':Tr Bk}{n' rb:Nat}(hr:h' rb=some ⟨bC (al.length+1) (λj=>[if j<al.length then T j else .sl tb 0 3 (.ex 3)]),some (1,129)⟩) (ho:∀b,b<σ'.aj->h' b=σ'.h b) (hrb:σ'.aj<=rb) (hn:rb<n') (hf:Fr σ ⟨h',n'⟩):
  (∃rv a,V.c (.sl rb 0 (al.length+1) .opn)=.c rv/\iG (λb=>p b\/σ.aj<=b/\b<n') h' rv (al++[a])/\a.length=3/\∀t,t<3->Gj nc al (ix a t)/\(ix a t).length<=nc+1)/\Fr σ ⟨h',n'⟩:=by
 have hle:=hT.fr.le
 have hn1:=hT.n
 have h3:∀t,t<3->ix [ts 0,ts 1,ts 2] t=ts t:=λt ht=>by
  match t,ht with
  |0,_=>rfl
  |1,_=>rfl
  |2,_=>rfl
 refine⟨⟨_,[ts 0,ts 1,ts 2],rfl,⟨λj=>if j<al.length then T j else .sl tb 0 3 (.ex 3),?_,λj hj=>?_⟩,rfl,λt ht=>?_⟩,hf⟩
 .have:(al++[[ts 0,ts 1,ts 2]]).length=al.length+1:=by simp
  rw[this]
  exact bD _ hr rfl (.inr ⟨jb,hn⟩) (λ_=>rfl) jj λj hj=>by
   dsimp only;split
   .next e=>simp only[cD,dj,Rl j e,cU]
   .rfl
 .have hj':j<al.length+1:=by simpa using hj
  dsimp only
  by_cases e:j<al.length
  .rw[ae e,gW _ _ e]
   refine((hT2 j e).plt hW).keep (λb hb=>?_) λb hb=>.inl hb.1
   rw[ho b jb,hT.fr.old b hb.2]
  .rw[ab e]
   obtain rfl:j=al.length:=jb
   rw[gX]
   refine⟨λt=>kC (ts t) (bs t),?_,λt ht=>?_⟩
   .have hb:h' tb=some ⟨bC 3 (λt=>[kC (ts t) (bs t)]),none⟩:=by rw[ho tb jb];exact hT.b
    exact bD _ hb rfl (.inr ⟨htb,jb⟩) (λ_=>rfl) jj λj _=>by simp only[cD,dj,qC,cU]
   .have ht:t<3:=ht
    rw[h3 t ht]
    exact(hT.f.hlp (p:=λb=>tb+1<=b/\b<σ'.aj) (λb h1 h2=>⟨h1,h2⟩) (λ_=>rfl) jj (λ_=>rfl) ht).keep (λb hb=>ho b hb.2) λb hb=>.inr ⟨jb,jb⟩
 .rw[h3 t ht]
  exact⟨hT.g t ht,by have:=hT.l t ht;omega⟩
def an4{σ:St}(hW:WF σ){p:Nat->Prop}{x1 x2 x3 C A:B}(al:List fD)(hA:iG p σ.h A al)(hl:atj al)(nc:Nat)(hC:lenV (.c C)=some (jN nc))(hnc:nc<=1000)(h1:x1.kn=true)(h2:x2.kn=true)(h3:x3.kn=true)(h4:C.kn=true)
  (p0 p1 p2:Nat) (b0:p0<=65535) (b1:p1<=65535) (b2:p2<=65535):
  aC EN 39 [.agg [x1,x2,x3,C,A],.agg [.int .u16 (.ofNat p0),.int .u16 (.ofNat p1),.int .u16 (.ofNat p2)]] σ λr σ'=>(∃rv a,r=.c rv/\iG (λb=>p b\/σ.aj<=b/\b<σ'.aj) σ'.h rv (al++[a])/\a.length=3/\∀t,t<3->Gj nc al (ix a t)/\(ix a t).length<=nc+1)/\Fr σ σ':=by
 refine aO (GX.o _ _) GX.h ?_
 unfold GX
 dsimp only
 have hAk:=hA.kn
 simp(disch:=try exact jz) only[go_sem,hAk,hC,h4]
 refine bM.mono (Q:=λe tm σ'=>e=.exit 0/\∃ts bs,Tr.ah tm 2=.c (.ptr σ.aj 0)/\Tr.ah tm 3=.c (.ptr (σ.aj+1) 0)/\Tr.ah tm 5=.c (.sl (σ.aj+1+1) 0 3 (.ex 3))
  /\σ'.h σ.aj=some ⟨[x1,x2,x3,C,A],none⟩/\σ'.h (σ.aj+1)=some ⟨[.int .u16 (.ofNat p0),.int .u16 (.ofNat p1),.int .u16 (.ofNat p2)],none⟩/\TI σ σ' (σ.aj+1+1) nc nc al ts bs) (aF (λq tm σ'=>∃i ts bs,q=nc-i/\i<=nc/\Tr.ah tm 2=.c (.ptr σ.aj 0)/\Tr.ah tm 3=.c (.ptr (σ.aj+1) 0)/\Tr.ah tm 5=.c (.sl (σ.aj+1+1) 0 3 (.ex 3))/\Tr.ah tm 6=jN p1/\Tr.ah tm 17=jN nc/\Tr.ah tm 18=jN i
  /\σ'.h σ.aj=some ⟨[x1,x2,x3,C,A],none⟩/\σ'.h (σ.aj+1)=some ⟨[.int .u16 (.ofNat p0),.int .u16 (.ofNat p1),.int .u16 (.ofNat p2)],none⟩/\TI σ σ' (σ.aj+1+1) i nc al ts bs) nc ?_ ?_) ?_
 .refine⟨0,λ_=>[],λ_=>0,jb,jb,?_⟩
  simp(disch:=try exact jz) only[go_sem,am]
  refine⟨?_,LJ.nil _ _ _ _ _ _ _ _,λt _ k hk=>by simp at hk,λt _=>cP 0,jp,?_⟩
  .rw[aA];rfl
  .exact fr
 .rintro q tm σ' ⟨i,ts,bs,rfl,hi,t2,t3,t5,t6,t17,nP,q1,q2,hT⟩
  have hle:=hT.fr.le
  have hn:=hT.n
  have hr:=xA p1 (2^min (2*i) 64) 9223372036854775807 jb
  simp(disch:=try exact jz) only[go_sem,t2,t3,t5,t6,t17,nP,aG]
  refine aH (λhlt=>?_) (λhlt=>?_)
  .simp(disch:=try exact jz) only[go_sem,t2,t3,t5,t6,t17,nP]
   have hx3:(p1/2^min (2*i) 64)&&&3<=3:=Nat.and_le_right
   generalize (p1/2^min (2*i) 64)&&&3=x at*
   refine X0 (λhx0=>?_) (λhx0=>?_)
   .simp(disch:=try exact jz) only[go_sem,t2,t3,t5,t6,t17,nP,hx0]
    exact⟨nc-(i+1),jb,i+1,ts,bs,rfl,jb,rfl,q1,q2,hT.step (Fr.refl hT.fr.wf)⟩
   .have TD:=hT.b
    simp(disch:=try exact jz) only[go_sem,t2,t3,t5,t6,t17,nP,hx0,au q1,h1,h2,h3,h4,hAk]
    refine(atl hT.fr.wf al (hA.fr hW hT.fr) hl h1 h2 h3 h4 (.ofNat i)).mono ?_
    rintro _ σ3 ⟨⟨fb,rfl,hfb⟩,hf3⟩
    have q1':=hf3.get hT.fr.wf q1
    have q2':=hf3.get hT.fr.wf q2
    simp(disch:=try exact jz) only[go_sem,t2,t3,t5,t6,t17,nP]
    cases fb
    .simp(disch:=try exact jz) only[go_sem,t2,t3,t5,t6,t17,nP]
     exact⟨nc-(i+1),jb,i+1,ts,bs,rfl,jb,rfl,q1',q2',hT.step hf3⟩
    .have JZ:=hT.step hf3
     have hf0:=hfb rfl
     have hF3:=JZ.fr
     have TD:=JZ.b
     have hn3:=JZ.n
     have hle3:=JZ.fr.le
     have hkn:=qC (ts (x-1)) (bs (x-1))
     have hpl:=adf (ts (x-1))
     have hpt:=Yw (ts (x-1))
     have hxl:=JZ.l (x-1) jb
     have hr2:=xA p2 (2^min i 64) 9223372036854775807 jb
     have hr3:=xA p2 (2^min 6 16) 9223372036854775807 jb
     have hgood:∀(b:Bool) (w:Nat),w<=16->TB nc al ⟨.ofNat i,b,mP ((Int.ofNat w:Int):Rat)⟩:=λb w hw=>⟨.inr ⟨i,hlt,rfl,hf0⟩,w,hw,rfl⟩
     simp(disch:=try exact jz) only[go_sem,t2,t3,t5,t6,t17,nP,au q2']
     refine aH (λhcap=>?_) (λhcap=>?_)
     .by_cases hz:(ts (x-1)).length=0
      .have he:kC (ts (x-1)) (bs (x-1))=.aP:=by unfold kC;rw[ae hz]
       simp(disch:=try exact jz) only[go_sem,t2,t3,t5,t6,t17,nP,au q2',au TD,TD,he]
       refine⟨nc-(i+1),jb,i+1,aN ts (x-1) (ts (x-1)++[⟨.ofNat i,true,mP ((Int.ofNat (p2/2^min 6 16%9):Int):Rat)⟩]),aN bs (x-1) (σ3.aj+1+1),rfl,jb,rfl,?_,?_,TI.push (i:=i) ⟨JZ.b,JZ.f,JZ.g,λt ht=>?_,JZ.n,JZ.fr⟩ jb (hgood true (p2/2^min 6 16%9) jb) ?_ ?_ ?_ ?_ ?_ ?_⟩
       .exact q1'
       .exact q2'
       .exact hT.l t ht
       .rw[hz,aA]
       .rw[ak _ _ _ _ jb,aA,hz];rfl
       .intro b h1 h2 h3
        simp(disch:=omega) only[ak]
       .omega
       .omega
       .exact fr
      .have he:=iY (l:=ts (x-1)) jb (bs (x-1))
       obtain⟨k1,k2,k3⟩:=JZ.f.blk (x-1) jb jb
       simp(disch:=try exact jz) only[go_sem,t2,t3,t5,t6,t17,nP,au q2',au TD,TD,he,k1,hpt]
       refine⟨nc-(i+1),jb,i+1,aN ts (x-1) (ts (x-1)++[⟨.ofNat i,true,mP ((Int.ofNat (p2/2^min 6 16%9):Int):Rat)⟩]),aN bs (x-1) (σ3.aj+1+1),rfl,jb,rfl,?_,?_,TI.push (i:=i) ⟨JZ.b,JZ.f,JZ.g,λt ht=>?_,JZ.n,JZ.fr⟩ jb (hgood true (p2/2^min 6 16%9) jb) ?_ ?_ ?_ ?_ ?_ ?_⟩
       .exact q1'
       .exact q2'
       .exact hT.l t ht
       .rw[aA]
       .rw[ak _ _ _ _ jb,aA];rfl
       .intro b h1 h2 h3
        have h3:=h3 jb
        simp(disch:=first|assumption|omega) only[ak,eX]
       .omega
       .omega
       .exact fr
     .by_cases hz:(ts (x-1)).length=0
      .have he:kC (ts (x-1)) (bs (x-1))=.aP:=by unfold kC;rw[ae hz]
       simp(disch:=try exact jz) only[go_sem,t2,t3,t5,t6,t17,nP,au q2',au TD,TD,he]
       refine⟨nc-(i+1),jb,i+1,aN ts (x-1) (ts (x-1)++[⟨.ofNat i,false,mP ((Int.ofNat (0):Int):Rat)⟩]),aN bs (x-1) (σ3.aj+1+1),rfl,jb,rfl,?_,?_,TI.push (i:=i) ⟨JZ.b,JZ.f,JZ.g,λt ht=>?_,JZ.n,JZ.fr⟩ jb (hgood false (0) jb) ?_ ?_ ?_ ?_ ?_ ?_⟩
       .exact q1'
       .exact q2'
       .exact hT.l t ht
       .rw[hz,aA]
       .rw[ak _ _ _ _ jb,aA,hz];rfl
       .intro b h1 h2 h3
        simp(disch:=omega) only[ak]
       .omega
       .omega
       .exact fr
      .have he:=iY (l:=ts (x-1)) jb (bs (x-1))
       obtain⟨k1,k2,k3⟩:=JZ.f.blk (x-1) jb jb
       simp(disch:=try exact jz) only[go_sem,t2,t3,t5,t6,t17,nP,au q2',au TD,TD,he,k1,hpt]
       refine⟨nc-(i+1),jb,i+1,aN ts (x-1) (ts (x-1)++[⟨.ofNat i,false,mP ((Int.ofNat (0):Int):Rat)⟩]),aN bs (x-1) (σ3.aj+1+1),rfl,jb,rfl,?_,?_,TI.push (i:=i) ⟨JZ.b,JZ.f,JZ.g,λt ht=>?_,JZ.n,JZ.fr⟩ jb (hgood false (0) jb) ?_ ?_ ?_ ?_ ?_ ?_⟩
       .exact q1'
       .exact q2'
       .exact hT.l t ht
       .rw[aA]
       .rw[ak _ _ _ _ jb,aA];rfl
       .intro b h1 h2 h3
        have h3:=h3 jb
        simp(disch:=first|assumption|omega) only[ak,eX]
       .omega
       .omega
       .exact fr
  .have:i=nc:=jb
   subst this
   simp(disch:=try exact jz) only[go_sem,am]
   exact⟨ts,bs,t2,t3,t5,q1,q2,hT⟩
 .rintro _ tm σ' ⟨rfl,ts,bs,t2,t3,t5,q1,q2,hT⟩
  have hF:=hT.fr
  have hle:=hT.fr.le
  have hn:=hT.n
  have TD:=hT.b
  have hr0:=xA p0 8 65535 b0
  have hr1:=xA p0 32 65535 b0
  have hr2:=xA p0 96 65535 b0
  show bM EN (.seq _ _) _ _ _
  refine ade (λtm σ3=>∃ts bs i2,i2<=nc+1/\Tr.ah tm 2=.c (.ptr σ.aj 0)/\Tr.ah tm 5=.c (.sl (σ.aj+1+1) 0 3 (.ex 3))/\σ3.h σ.aj=some ⟨[x1,x2,x3,C,A],none⟩/\TI σ σ3 (σ.aj+1+1) i2 nc al ts bs) ?_ ?_
  .simp(disch:=try exact jz) only[go_sem,t2,t3,t5,au q2]
   refine aH (λhcap=>?_) (λhcap=>?_)
   .generalize hx:p0/32%3=x at*
    have hx3:x<3:=jb
    have hkn:=qC (ts x) (bs x)
    have hpl:=adf (ts x)
    have hpt:=Yw (ts x)
    have hxl:=hT.l x hx3
    have hgood:TB nc al ⟨-1,true,mP ((Int.ofNat (p0/96%7):Int):Rat)⟩:=⟨.inl ⟨rfl,rfl⟩,_,jb,rfl⟩
    by_cases hz:(ts x).length=0
    .have he:kC (ts x) (bs x)=.aP:=by unfold kC;rw[ae hz]
     simp(disch:=try exact jz) only[go_sem,t2,t3,t5,hx,au q2,au TD,TD,he]
     refine⟨aN ts x (ts x++[⟨-1,true,mP ((Int.ofNat (p0/96%7):Int):Rat)⟩]),aN bs x (σ'.aj+1),nc+1,jb,q1,TI.push hT hx3 hgood ?_ ?_ ?_ ?_ ?_ ?_⟩
     .rw[hz,aA]
     .rw[ak _ _ _ _ jb,aA,hz];rfl
     .intro b h1 h2 h3
      simp(disch:=omega) only[ak]
     .omega
     .omega
     .exact fr
    .have he:=iY (l:=ts x) jb (bs x)
     obtain⟨k1,k2,k3⟩:=hT.f.blk x hx3 jb
     simp(disch:=try exact jz) only[go_sem,t2,t3,t5,hx,au q2,au TD,TD,he,k1,hpt]
     refine⟨aN ts x (ts x++[⟨-1,true,mP ((Int.ofNat (p0/96%7):Int):Rat)⟩]),aN bs x (σ'.aj+1),nc+1,jb,q1,TI.push hT hx3 hgood ?_ ?_ ?_ ?_ ?_ ?_⟩
     .rw[aA]
     .rw[ak _ _ _ _ jb,aA];rfl
     .intro b h1 h2 h3
      have h3:=h3 jb
      simp(disch:=first|assumption|omega) only[ak,eX]
     .omega
     .omega
     .exact fr
   .simp(disch:=try exact jz) only[go_sem,am]
    exact⟨ts,bs,nc,jb,t2,t5,q1,hT⟩
  .rintro tm σ3 ⟨ts,bs,i2,hi2,t2,t5,q1,hT⟩
   have hF:=hT.fr
   have hle:=hT.fr.le
   have hn:=hT.n
   obtain⟨T,hT1,hT2⟩:=hA
   have Rl:∀j,j<al.length->(T j).kn=true:=λj hj=>by obtain⟨b,o,c,e,-,hld⟩:=hT1.pos jb;exact(sU (hld j hj)).2
   have hal:=hl.1
   have hAk:=hT1.kn
   by_cases h0:al.length=0
   .have hA0:A=.aP\/∃b o c,A=.sl b o 0 c:=by
     rcases hT1 with⟨-,e⟩|⟨b,o,c,e,-⟩
     .exact .inl e
     .exact .inr ⟨b,o,c,by rw[e,h0]⟩
    have hfin:∀h':Tr Bk,h'=hset (hset σ3.h σ3.aj ⟨[.sl (σ.aj+1+1) 0 3 (.ex 3)],none⟩) (σ3.aj+1) ⟨[.sl (σ.aj+1+1) 0 3 (.ex 3)],some (1,129)⟩->(∃rv a,V.c (.sl (σ3.aj+1) 0 1 .opn)=.c rv/\iG (λb=>p b\/σ.aj<=b/\b<σ3.aj+1+1) h' rv (al++[a])/\a.length=3/\∀t,t<3->Gj nc al (ix a t)/\(ix a t).length<=nc+1)/\Fr σ ⟨h',σ3.aj+1+1⟩:=λh' e=>by subst e;have:=agree_end (rb:=σ3.aj+1) (n':=σ3.aj+1+1) (h':=hset (hset σ3.h σ3.aj ⟨[.sl (σ.aj+1+1) 0 3 (.ex 3)],none⟩) (σ3.aj+1) ⟨[.sl (σ.aj+1+1) 0 3 (.ex 3)],some (1,129)⟩) hW hT2 Rl hT hi2 jb (by rw[aA,h0];rfl) (λb9 h9=>by simp(disch:=omega) only[ak]) jb jb (fr);rw[h0]at this;exact this
    rcases hA0 with rfl|⟨b,o,c,rfl⟩
    .simp(disch:=try exact jz) only[go_sem,t2,t5,au q1,h1,h2,h3,h4,hAk]
     exact hfin _ rfl
    .simp(disch:=try exact jz) only[go_sem,t2,t5,au q1,h1,h2,h3,h4,hAk]
     exact hfin _ rfl
   .obtain⟨b,o,c,rfl,-,hld⟩:=hT1.pos jb
    have hbl:=hW.dA (hld 0 jb)
    obtain⟨kk,e1,e2,e3,e4,e5⟩:=Ti jb λi hi=>hF.ld hW (hld i hi)
    simp(disch:=try exact jz) only[go_sem,t2,t5,au q1,h1,h2,h3,h4,hAk,e1,e3,e4,e5,e2]
    refine agree_end hW hT2 Rl hT hi2 jb ?_ ?_ jb jb ?_
    .rw[aA,jC (e:=1) (G:=λi=>[T i]) (λ_=>rfl),jw]
     congr 2
     refine bH λj hj=>?_
     unfold iR
     by_cases e:j=al.length
     .rw[ae e,ab jb]
     .rw[ab e,ae jb]
    .intro b9 h9
     simp(disch:=omega) only[ak,eX]
    .exact fr
end Go.Proofs.Xe
