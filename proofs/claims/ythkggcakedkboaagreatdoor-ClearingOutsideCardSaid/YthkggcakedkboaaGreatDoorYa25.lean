import Derived.Test.YthkggcakedkboaaGreatDoorYa24
set_option linter.all false
set_option maxRecDepth 100000
set_option maxHeartbeats 8000000
namespace Go.Proofs.Xe
open Go.RowKit Go.Proofs.Ins
abbrev jC(p:Nat->Prop)(h:Tr Bk)(v:B)(k:Nat)(f:Nat->Rat):Prop:=aY p h 3 v k λc=>fE (f c)
def dR(p:Nat->Prop)(h:Tr Bk)(v:B)(n:Nat)(k:Nat->Nat)(f:Nat->Nat->Rat):Prop:=∃T:Nat->B,aY p h 1 v n (λi=>[T i])/\∀i,i<n->jC p h (T i) (k i) (f i)
section
variable {p q:Nat→Prop} {h h' : Tr Bk} {v:B} {n:Nat} {k:Nat→Nat} {f f' : Nat→Nat→Rat}
def aY.at3{m:Nat}{f:Nat->Rat}(hl:jC p h v m f){c:Nat}(hc:c<m):∃b o cc,v=.sl b o m cc/\p b/\ld h b (o+c*3) 3 true=some (.agg [.bool (rn (f c)),.str (rs (f c)),.str (rd (f c))]):=by obtain⟨b,o,cc,e,hp,hld⟩:=aY.pos hl jb;exact⟨b,o,cc,e,hp,hld c hc⟩
def dR.at(hr:dR p h v n k f){i:Nat}(hi:i<n):∃b o c T,v=.sl b o n c/\p b/\ld h b (o+i*1) 1 false=some (.c T)/\jC p h T (k i) (f i):=by obtain⟨T,h1,h2⟩:=hr;obtain⟨b,o,c,e,hp,hld⟩:=h1.pos jb;grind[vK]
def dR.keep(hr:dR p h v n k f)(hk:∀b,p b->h' b=h b)(hp:∀b,p b->q b):dR q h' v n k f:=by obtain⟨T,h1,h2⟩:=hr;exact⟨T,h1.keep hk hp,λi hi=>aY.keep (h2 i hi) hk hp⟩
def dR.len(hr:dR p h v n k f):lenV (.c v)=some (.c (.int .i64 (.ofNat n))):=hr.choose_spec.1.len
def dR.kn(hr:dR p h v n k f):v.kn=true:=hr.choose_spec.1.kn
end
theorem dR.fr{σ σ':St}(hW:WF σ)(hf:Fr σ σ'){p:Nat->Prop}{v:B}{n:Nat}{k:Nat->Nat}{f:Nat->Nat->Rat}(hr:dR p σ.h v n k f):dR (Lt σ.aj) σ'.h v n k f:=by obtain⟨T,h1,h2⟩:=hr;exact⟨T,h1.fr hW hf,λi hi=>aY.fr hW hf (h2 i hi)⟩
def Qh(T:Nat->B)(k:Nat->Nat)(f:Nat->Nat->Rat)(p:Nat->Prop)(h:Tr Bk)(i:Nat):Prop:=jC p h (T i) (k i) (f i)
abbrev aa2(T:Nat->B)(k:Nat->Nat)(f:Nat->Nat->Rat)(ty:Nat)(h:Tr Bk)(b n lo hi:Nat):Prop:=NF (Qh T k f) h b n (λi=>[T i]) 1 ty lo hi
def DL(T:Nat->B)(k:Nat->Nat)(f:Nat->Nat->Rat)(j:Nat):QK (Qh T k f) j:=λ_ _ _ _ hp hk hq=>aY.keep hp hk hq
def aji(T:Nat->B):LG (λi=>[T i]) 1:=λ_=>rfl
section
variable {T:Nat→B} {k:Nat→Nat} {f:Nat→Nat→Rat} {h h' : Tr Bk} {b n ty lo hi:Nat}
def aa2.push(ho:aa2 T k f ty h b n lo hi){hi1 nx n':Nat}{h1:Tr Bk}{v:B}(hx:jC (λb=>hi<=b/\b<hi1) h1 v (k n) (f n))(hh:∀b,lo<=b->b<hi->h1 b=h b)(h2:hi<=hi1)(h3:hi1<=nx)(h4:nx<n')(h5:lo<=hi)
  (hb:h' nx=some ⟨bH n (λi=>[T i])++[v],some (1,ty)⟩) (hk:∀c,lo<=c->c<hi1->n=0\/c≠b->h' c=h1 c):aa2 (aP T n v) k f ty h' nx (n+1) lo n':=by
 refine NF.push ho (λj _=>DL _ k f j) (λj hj p h hq=>?_) (hi1:=hi1) (h1:=h1) ?_ hh h2 h3 h4 h5 hb ?_ hk (λi hi=>?_) (aji _)
 .grind[Qh,aQ]
 .grind[Qh,aO]
 .rw[aO]
 grind[aQ]
def aa2.hrows(ho:aa2 T k f ty h b n lo hi){p:Nat->Prop}(hp:∀b,lo<=b->b<hi->p b):dR p h (aU n b) n k f:=by have hel:=λi (hi:i<n)=>ho.el (λj _=>DL T k f j) hi;refine⟨T,ho.hlp jj (λi hi=>?_) hp,λi hi=>aY.keep (hel i hi) (λ_ _=>rfl) λb hb=>hp b hb.1 hb.2⟩;simp only[cO,eo,aY.kn (hel i hi),dy]
end
def kT{E:Env}{f:Nat}{args:List V}{σ:St}{F:AF}{K:V->St->Prop}(ho:E.Wq f args σ=none)(hF:E.fns f=some F):aC E f args σ K=bI E F.body (ini args) σ (aaf F.res K):=by
 refine propext ⟨?_,aN ho hF⟩;rintro⟨n,v,σ',h1,h2⟩;cases n with
 |zero=>grind[iQ]
 |succ n=>
  rw[iQ]at h1
  unfold Hu at h1
  rw[ho,hF]at h1
  dsimp only at h1
  rw[aae]at h1
  dsimp only at h1
  unfold aeg at h1
  split at h1
  .next tm τ e=>
   split at h1
   .next u hu=>cases h1;exact⟨n,_,tm,_,e,_,hu,h2⟩
   grind
  .next tm τ e=>
   split at h1
   .next u hu=>cases h1;exact⟨n,_,tm,_,e,_,hu,h2⟩
   grind
  grind
section
variable (dI bM tm:Tr V) (σ:St) (res:List Rs) (pd:List iP)
def ajj(i:Nat)(us os:List Nat)(d:Option Nat)(g:Option (Nat×Bool))(bytes:Nat)(z:List B)(a c:O)(l:List DO)(K:St->List Rs->List iP->Prop):
  uY dI bM (⟨i,us,os,⟨d,g,.KE bytes z a c⟩⟩::l) σ res pd K=match Nk dI bM res us os with
   |some tm=>BI g tm (match Kq (a.ev tm),Kq (c.ev tm)with
    |some n,some m=>(bif Nat.ble n m&&(Nat.ble (bytes*m) 281474976710656&&Nat.ble m 1073741824)then uY dI bM l ⟨hset σ.h σ.aj ⟨rep z m,none⟩,σ.aj+1⟩ (⟨i,d,.c (.sl σ.aj 0 n (.ex m))⟩::res) (⟨i,⟨d,g,.KE bytes z a c⟩,tm,.c (.sl σ.aj 0 n (.ex m)),true,some σ.aj⟩::pd) K else False)
    |_,_=>False) (uY dI bM l σ (⟨i,d,.tnil⟩::res) (⟨i,⟨d,g,.KE bytes z a c⟩,tm,.tnil,false,none⟩::pd) K)
   |none=>False:=by
 unfold uY BI
 rw[xZ]
 dsimp only
 cases Nk dI bM res us os with
 |none=>rfl
 |some tm=>
  grind[vT.kind,nH,jS]
def aa3(i:Nat)(d:Option Nat)(g9:Option (Nat×Bool))(bytes:Nat)(z:List B)(a c:O)(v:V)(b:Nat):again σ ⟨i,⟨d,g9,.KE bytes z a c⟩,tm,v,true,some b⟩=match Kq (a.ev tm),Kq (c.ev tm)with
  |some n,some m=>(bif Nat.ble n m&&(Nat.ble (bytes*m) 281474976710656&&Nat.ble m 1073741824)then(match σ.h b with|some ⟨c,none⟩=>Nj c (rep z m)|_=>false)else false)
  |_,_=>false:=by
 grind[again,vT.kind,nH]
end
def ajk(n:Nat)(f:Nat->Bool):(ones n λi=>.bool (f i)).all B.kn=true:=aas λ_=>rfl
attribute [go_sem] ajj aa3 ajk
def wK{E:Env}{a b:AC}{tm:Tr V}{σ:St}{Q:AX->Tr V->St->Prop}(P:Tr V->St->Prop)(h:bI E a tm σ λe tm' σ'=>e=.normal/\P tm' σ')(h2:∀tm' σ',P tm' σ'->bI E b tm' σ' Q):bI E (.seq a b) tm σ Q:=
 run_seq (h.mono (by rintro _ tm' σ' ⟨rfl,hp⟩;exact h2 _ _ hp))
def OX{E:Env}{a b c:AC}{tm:Tr V}{σ:St}{Q:AX->Tr V->St->Prop}(P:Tr V->St->Prop)(h:bI E a tm σ (Ug E b λe tm' σ'=>e=.normal/\P tm' σ'))(h2:∀tm' σ',P tm' σ'->bI E c tm' σ' Q):bI E (.seq a (.seq b c)) tm σ Q:=
 run_seq (h.mono λe tm' σ' he=>by
  cases e with
  |normal=>exact wK P he h2
  |exit i=>cases he.1
  |ret=>cases he.1)
def IV{E:Env}{b:AC}{tm:Tr V}{σ:St}{Q:AX->Tr V->St->Prop}(h:bI E b tm σ Q):bI E .skip tm σ (Ug E b Q):=WR h
def Rz{n:Nat}{tk:Int->Bool}{x:Aj}(h:Xm n tk x=0):(x.k=Int.negSucc 0/\x.b=true\/∃c:Nat,c<n/\x.k=Int.ofNat c/\tk x.k=false)/\(x.b=true->¬sg x.a.q<0):=by
 unfold Xm at h;split at h
 .cases h
 .split at h
  .cases h
  .split at h
   .cases h
   .split at h
    .cases h
    .next h1 h2 h3 h4=>
     refine⟨?_,λhb hs=>h3 ⟨hb,hs⟩⟩;by_cases e:x.k=-1
     .refine .inl ⟨e,?_⟩;cases hb:x.b with
      |true=>rfl
      |false=>exact absurd ⟨e,hb⟩ h2
     .obtain⟨c,hc⟩:=cn (show 0<=x.k by omega);refine .inr ⟨c,jb,hc,?_⟩;cases ht:tk x.k with
      |false=>rfl
      |true=>exact absurd ⟨e,ht⟩ h4
def RF{n:Nat}{tk:Int->Bool}{a:gV}(h:Qa n tk a=0):(a.length<=24/\∀i,i<a.length->(ix a i).length<=24)/\∀k,k<a.flatten.length->Xm n tk (ix a.flatten k)=0:=by
 unfold Qa at h;split at h
 .cases h
 .next h1=>
  refine⟨CV.mp (by simpa using h1),λk hk=>?_⟩;obtain⟨t,ht,hx⟩:=List.mem_flatten.mp (iM hk);obtain⟨i,hi,rfl⟩:=aM ht;obtain⟨j,hj,e⟩:=aM hx;have:=dY (dY h i hi) j (by rw[dV hi];exact hj);rw[dV hi,dV hj,e]at this;exact this
def afv{σ:St}(hW:WF σ){p:Nat->Prop}{v:B}{n:Nat}{T:Nat->B}(hv:aY p σ.h 1 v n λi=>[T i])(hT:∀i,i<n->∃k:Nat,lenV (.c (T i))=some (.c (.int .i64 (.ofNat k)))/\k<=24)(hn:n<=1000):
  aC EN 171 [.c v,.fn 132 []] σ λr σ'=>r=.c (.int .i64 (.negSucc 0))/\Fr σ σ':=by
 refine aN (fO.o _ _) fO.h ?_
 unfold fO
 dsimp only
 have hlen:=aY.len hv
 have hc:=λ(args:List V) (σ:St) (K:V->St->Prop)=>kT (E:=EN) (K:=K) (iZ.o args σ) iZ.h
 unfold iZ at hc
 dsimp only at hc
 simp(disch:=try exact jz) only[go_sem,z3,hlen]
 refine aF (λq tm σ'=>∃j,q=n-j/\j<=n/\Tr.ah tm 0=.c v/\Tr.ah tm 1=.fn 132 []/\Tr.ah tm 7=.c (.int .i64 (.ofNat n))/\Tr.ah tm 8=.c (.int .i64 (.ofNat j))/\Fr σ σ') n ?_ ?_
 .refine⟨0,jb,jb,?_⟩
  simp(disch:=try exact jz) only[go_sem,z3,am]
  exact Fr.refl hW
 .rintro q tm σ' ⟨j,rfl,hj,t0,t1,t7,t8,hf⟩
  simp(disch:=try exact jz) only[go_sem,z3,t0,t1,t7,t8,aG]
  refine aH (λhlt=>?_) (λhlt=>?_)
  .obtain⟨b,o,c,rfl,hld⟩:=HL.one (aY.hl hv) jb
   have hld:=hf.ld hW (hld j hlt)
   obtain⟨k,hk,hk2⟩:=hT j hlt
   have hd:decide ((Int.ofNat 24:Int)<Int.ofNat k)=false:=ap (by show¬((24:Int)<(k:Int));omega)
   simp(disch:=try exact jz) only[go_sem,z3,t0,t1,t7,t8,hld,hc,hk,hd]
   exact⟨n-(j+1),jb,j+1,rfl,jb,rfl,hf⟩
  .have:j=n:=jb
   subst this
   simp(disch:=try exact jz) only[go_sem,z3,t0]
   exact hf
def ajm{E:Env}[aax E]{σ:St}(hW:WF σ){p:Nat->Prop}{v:B}{a:gV}(ha:dZ p σ.h v a)(h1:a.length<=1000000)(h2:a.flatten.length<=1000000):
  aC E 133 [.c v] σ λr σ'=>(∃u,r=.c u/\CW (Lt σ'.aj) σ'.h u a.flatten)/\Fr σ σ':=by
 by_cases h0:a.flatten.length=0
 .rw[Yc ha h1 h2 (v':=.c .aX) (σ':=σ) (ab h0)]
  exact⟨⟨_,rfl,.inl ⟨h0,rfl⟩⟩,Fr.refl hW⟩
 .rw[Yc ha h1 h2 (ae h0)]
  exact⟨⟨_,rfl,bD _ (aA _ _ _) (CQ _ _ jj) (cg _) (λ_=>rfl) jj λ_ _=>rfl⟩,fr⟩
def avY{σ:St}(hW:WF σ){p:Nat->Prop}{v tv:B}{a:gV}{nc:Nat}{tk:Int->Bool}(ha:dZ p σ.h v a)(ht:HL σ.h 1 tv nc λi=>[.bool (tk (Int.ofNat i))])(hn:nc<=1000)(hz:Qa nc tk a=0)(hnf:a.flatten.length<=1000000)(hfp:∀k,k<a.flatten.length->(ix a.flatten k).a.fits 1000000):
  aC EN 90 [.agg [v],.c tv] σ λr σ'=>r=.c (.int .i64 (.ofNat 0))/\Fr σ σ':=by
 refine aN (jm.o _ _) jm.h ?_
 unfold jm
 dsimp only
 obtain⟨⟨hl,hlt⟩,hc0⟩:=RF hz
 have ha':=ha
 obtain⟨T,hT,hP⟩:=ha'
 have hvk:=hT.kn
 have hvl:=aY.len hT
 have htk:=ht.kn
 have htl:=ht.len
 have hFr:=Fr.refl hW
 have hd:decide ((Int.ofNat 24:Int)<Int.ofNat a.length)=false:=ap (by show¬((24:Int)<(a.length:Int));omega)
 have hcf:=λ(args:List V) (σ:St) (K:V->St->Prop)=>kT (E:=EN) (K:=K) (eH.o args σ) eH.h
 unfold eH at hcf
 dsimp only at hcf
 simp(disch:=try exact jz) only[go_sem,z3,hvk,hvl,htk,hd,hcf]
 refine aC.st (Fr σ) (fr) λhF=>?_
 refine(afv hF.wf (aY.fr hW hF hT) (λi hi=>⟨_,aY.len (hP i hi),hlt i hi⟩) jb).mono ?_
 rintro _ σ2 ⟨rfl,hf2⟩
 have hF2:=hF.trans hf2
 have q2:=hf2.get hF.wf (aA _ _ _)
 simp(disch:=try exact jz) only[go_sem,z3,show(Int.ofNat 0<=Int.negSucc 0)=False from propext ⟨λh=>absurd h jj,False.elim⟩,ak q2,hvk]
 refine(ajm hf2.wf (ha.fr hW hF2) jb hnf).mono ?_
 rintro _ σ3 ⟨⟨u,rfl,hu⟩,hf3⟩
 have hF3:=hF2.trans hf3
 have hul:=aY.len hu
 have huk:=aY.kn hu
 generalize a.flatten=l at*
 simp(disch:=try exact jz) only[go_sem,z3,hul,huk]
 refine aF (λq tm σ'=>∃j,q=l.length-j/\j<=l.length/\Tr.ah tm 1=.c tv/\Tr.ah tm 19=.c u/\Tr.ah tm 20=.c (.int .i64 (.ofNat l.length))/\Tr.ah tm 21=.c (.int .i64 (.ofNat j))/\Fr σ3 σ') l.length ?_ ?_
 .refine⟨0,jb,jb,?_⟩
  simp(disch:=try exact jz) only[go_sem,z3,am]
  exact Fr.refl hf3.wf
 .rintro q tm σ' ⟨j,rfl,hj,t1,t19,t20,t21,hf⟩
  simp(disch:=try exact jz) only[go_sem,z3,t1,t19,t20,t21,aG]
  refine aH (λhlt=>?_) (λhlt=>?_)
  .obtain⟨b,o,c,rfl,-,hld⟩:=aY.pos hu jb
   have hld:=hf.ld hf3.wf (hld j hlt)
   unfold Az at hld
   obtain⟨h1,h2⟩:=Rz (hc0 j hlt)
   have hfit:=rF (hfp j hlt) jj
   have hraw:rq (ix l j).a.n (ix l j).a.s (ix l j).a.d=(ix l j).a.q:=rfl
   have hle:=hf.le
   have jM:=Fr.refl hf.wf
   rcases h1 with⟨e1,e2⟩|⟨k,hk,e1,e2⟩
   .rw[e1,e2]at hld
    have hsg:decide (sg (ix l j).a.q<Int.ofNat 0)=false:=ap (h2 e2)
    simp(disch:=try exact jz) only[go_sem,z3,t1,t19,t20,t21,hld,hsg,hraw]
    exact⟨l.length-(j+1),jb,j+1,rfl,jb,rfl,fr⟩
   .rw[e1]at hld e2
    obtain⟨b2,o2,c2,rfl,ru⟩:=HL.one ht jb
    have ru:=(hF3.trans hf).ld hW (ru k hk)
    have hb2:=hf.wf.bV ru
    rw[e2]at ru
    have d1:decide (Int.ofNat k=Int.negSucc 0)=false:=rfl
    have d2:decide (Int.ofNat k<Int.ofNat 0)=false:=ap (by show¬((k:Int)<0);omega)
    have d3:decide (Int.ofNat nc<=Int.ofNat k)=false:=ap (by show¬((nc:Int)<=(k:Int));omega)
    cases hb:(ix l j).b with
    |true=>
     rw[hb]at hld
     have hsg:decide (sg (ix l j).a.q<Int.ofNat 0)=false:=ap (h2 hb)
     simp(disch:=try exact jz) only[go_sem,z3,t1,t19,t20,t21,hld,hsg,hraw,d1,d2,d3,htl,ru]
     exact⟨l.length-(j+1),jb,j+1,rfl,jb,rfl,fr⟩
    |false=>
     rw[hb]at hld
     simp(disch:=try exact jz) only[go_sem,z3,t1,t19,t20,t21,hld,d1,d2,d3,htl,ru]
     exact⟨l.length-(j+1),jb,j+1,rfl,jb,rfl,fr⟩
  .simp(disch:=try exact jz) only[go_sem,z3,am]
   exact hF3.trans hf
def anE{t:FZ}{c:Int}(h:∀k,k<t.length->(ix t k).k≠c):memT t c=false:=by
 cases hm:memT t c with
 |false=>rfl
 |true=>obtain⟨i,hi,e⟩:=Uw.mp hm;exact absurd e (h i hi)
def anF{a:gV}{c:Int}(h:∀k,k<a.length->memT (ix a k) c=false):EL a c=false:=by
 cases hm:EL a c with
 |false=>rfl
 |true=>obtain⟨i,hi,e⟩:=Ux.mp hm;rw[h i hi]at e;cases e
def afw{σ:St}(hW:WF σ){p:Nat->Prop}{v:B}{a:gV}(ha:dZ p σ.h v a)(hn:a.length<=1000)(hm:∀i,i<a.length->(ix a i).length<=1000)(c:Int):
  aC EN 210 [.agg [v],.c (.int .i64 c)] σ λr σ'=>r=.c (.bool (EL a c))/\Fr σ σ':=by
 refine aN (AB.o _ _) AB.h ?_
 unfold AB
 dsimp only
 obtain⟨T,hT,hP⟩:=ha
 have hvk:=hT.kn
 have hvl:=aY.len hT
 have hFr:=Fr.refl hW
 simp(disch:=try exact jz) only[go_sem,z3,hvk]
 refine aF (λq tm σ'=>∃j,q=a.length-j/\j<=a.length/\Tr.ah tm 1=.c (.int .i64 c)/\Tr.ah tm 2=.c (.ptr σ.aj 0)/\Tr.ah tm 5=.c (.int .i64 (.ofNat j))/\σ'.h σ.aj=some ⟨[v],none⟩/\(∀i,i<j->memT (ix a i) c=false)/\Fr σ σ') a.length ?_ ?_
 .refine⟨0,jb,jb,?_⟩
  simp(disch:=try exact jz) only[go_sem,z3,am]
  exact⟨λi hi=>jb,fr⟩
 .rintro q tm σ' ⟨j,rfl,hj,t1,t2,t5,q2,hno,hf⟩
  have hle:=hf.le
  simp(disch:=try exact jz) only[go_sem,z3,t1,t2,t5,ak q2,hvk,hvl,aG]
  refine aH (λhlt=>?_) (λhlt=>?_)
  .obtain⟨b,o,c9,rfl,hld⟩:=HL.one (aY.hl hT) jb
   have oO:=hld j hlt
   have zY:=hP j hlt
   have hlj:=hm j hlt
   have hlen:=zY.len
   have JH:=zY.kn
   generalize hti:ix a j=t at*
   simp(disch:=try exact jz) only[go_sem,z3,t1,t2,t5]
   refine aF (λq tm σ3=>∃i,q=t.length-i/\i<=t.length/\Tr.ah tm 1=.c (.int .i64 c)/\Tr.ah tm 2=.c (.ptr σ.aj 0)/\Tr.ah tm 5=.c (.int .i64 (.ofNat j))/\Tr.ah tm 6=.c (.int .i64 (.ofNat i))/\σ3.h σ.aj=some ⟨[.sl b o a.length c9],none⟩/\(∀k,k<i->(ix t k).k≠c)/\Fr σ σ3) t.length ?_ ?_
   .refine⟨0,jb,jb,?_⟩
    simp(disch:=try exact jz) only[go_sem,z3,t1,t2,t5,am]
    exact⟨q2,λk hk=>jb,hf⟩
   .rintro q tm3 σ3 ⟨i,rfl,hi,t1,t2,t5,t6,q2,afx,hf3⟩
    have OG:=hf3.ld hW oO
    simp(disch:=try exact jz) only[go_sem,z3,t1,t2,t5,t6,ak q2,OG,hlen,aG]
    refine aH (λhlt3=>?_) (λhlt3=>?_)
    .obtain⟨b5,o5,c5,e5,-,bF⟩:=aY.pos zY jb
     have bF:ld σ3.h b5 (o5+i*5) 1 false=some (.c (.int .i64 (ix t i).k)):=hf3.ld hW (og (bF i hlt3) 0 1 false jj jj)
     rw[e5]at OG
     simp(disch:=try exact jz) only[go_sem,z3,t1,t2,t5,t6,ak q2,OG,bF]
     refine aH (λhq=>?_) (λhq=>?_)
     .have hm:EL a c=true:=Ux.mpr ⟨j,hlt,by rw[hti];exact Uw.mpr ⟨i,hlt3,hq⟩⟩
      simp(disch:=try exact jz) only[go_sem,z3,hm]
      exact hf3
     .simp(disch:=try exact jz) only[go_sem,z3,t1,t2,t5,t6]
      exact⟨t.length-(i+1),jb,i+1,rfl,jb,rfl,q2,λk hk=>by
       by_cases e:k=i
       .rw[e];exact hq
       .exact afx k jb,hf3⟩
    .have:i=t.length:=jb
     subst this
     have ajn:=anE afx
     simp(disch:=try exact jz) only[go_sem,z3,t1,t2,t5]
     exact⟨a.length-(j+1),jb,j+1,rfl,jb,rfl,q2,λk hk=>by
      by_cases e:k=j
      .rw[e,hti];exact ajn
      .exact hno k jb,hf3⟩
  .have:j=a.length:=jb
   subst this
   have hm:=anF hno
   simp(disch:=try exact jz) only[go_sem,z3,hm]
   exact hf
def aa4{σ:St}(hW:WF σ){p:Nat->Prop}{m1 m2 m3 C A:B}{al:List gV}(hA:iW p σ.h A al)(h1:m1.kn=true)(h2:m2.kn=true)(h3:m3.kn=true)(h4:C.kn=true)(hl:∀j,j<al.length->(ix al j).length<=24/\∀t,t<(ix al j).length->(ix (ix al j) t).length<=24){k:Nat}(hk:k<=al.length)(hn:al.length<=12)(c:Int):
  aC EN 189 [.agg [m1,m2,m3,C,A],.c (.int .i64 (.ofNat k)),.c (.int .i64 c)] σ λr σ'=>r=.c (.bool (sO al k c))/\Fr σ σ':=by
 refine aN (yY.o _ _) yY.h ?_
 unfold yY
 dsimp only
 have hAk:=hA.kn
 have hFr:=Fr.refl hW
 simp(disch:=try exact jz) only[go_sem,z3,h1,h2,h3,h4,hAk]
 refine aF (λq tm σ'=>∃j,q=k-j/\j<=k/\Tr.ah tm 1=.c (.int .i64 (.ofNat k))/\Tr.ah tm 2=.c (.int .i64 c)/\Tr.ah tm 3=.c (.ptr σ.aj 0)/\Tr.ah tm 7=.c (.int .i64 (.ofNat j))/\σ'.h σ.aj=some ⟨[m1,m2,m3,C,A],none⟩/\sO al j c=false/\Fr σ σ'/\σ.aj+1<=σ'.aj) k ?_ ?_
 .refine⟨0,jb,jb,?_⟩
  simp(disch:=try exact jz) only[go_sem,z3,am]
  exact⟨ae4 _ _,fr,jp⟩
 .rintro q tm σ' ⟨j,rfl,hj,t1,t2,t3,t7,q3,hno,hf,hnx⟩
  have hle:=hf.le
  simp(disch:=try exact jz) only[go_sem,z3,t1,t2,t3,t7,aG]
  refine aH (λhlt=>?_) (λhlt=>?_)
  .obtain⟨b,o,c9,rfl,T,hld,hT⟩:=hA.at (show j<al.length by omega)
   have hld:=hf.ld hW hld
   obtain⟨a1,a2⟩:=hl j jb
   have JH:=hT.kn
   have hs:=Q5 (show j<al.length by omega) c
   rw[hno,Bool.false_or]at hs
   simp(disch:=try exact jz) only[go_sem,z3,t1,t2,t3,t7,ak q3,hld]
   refine(afw hf.wf (hT.fr hW hf) jb (λi hi=>by have:=a2 i hi;omega) c).mono ?_
   rintro _ σ4 ⟨rfl,hf4⟩
   have ni:=hf.trans hf4
   have RH:=hf4.get hf.wf q3
   have uO:=hf4.le
   cases hm:EL (ix al j) c with
   |true=>
    rw[hm]at hs
    have he:sO al k c=true:=by unfold sO at hs⊢;obtain⟨x,hx,hx2⟩:=cQ.mp hs;refine cQ.mpr ⟨x,?_,hx2⟩;exact(List.take_sublist_take_left (by omega:j+1<=k)).subset hx
    simp(disch:=try exact jz) only[go_sem,z3,he]
    exact ni
   |false=>
    rw[hm]at hs
    simp(disch:=try exact jz) only[go_sem,z3,t1,t2,t3,t7]
    exact⟨k-(j+1),jb,j+1,rfl,jb,rfl,RH,hs,ni,jb⟩
  .have:j=k:=jb
   subst this
   simp(disch:=try exact jz) only[go_sem,z3,hno]
   exact hf
def asy{σ:St}(hW:WF σ){p:Nat->Prop}{m1 m2 m3 C A:B}{nc:Nat}{al:List gV}(hC:lenV (.c C)=some (.c (.int .i64 (.ofNat nc))))(hA:iW p σ.h A al)(h1:m1.kn=true)(h2:m2.kn=true)(h3:m3.kn=true)(h4:C.kn=true)(hl:∀j,j<al.length->(ix al j).length<=24/\∀t,t<(ix al j).length->(ix (ix al j) t).length<=24){k:Nat}(hk:k<al.length)(hn:al.length<=12)(hz:Qa nc (sO al k) (ix al k)=0)
  (hs:∀t,t<(ix al k).length->∀i,i<(ix (ix al k) t).length->VY (ix (ix (ix al k) t) i).a.n (ix (ix (ix al k) t) i).a.s (ix (ix (ix al k) t) i).a.d=true):
  aC EN 166 [.agg [m1,m2,m3,C,A],.c (.int .i64 (.ofNat k))] σ λr σ'=>r=.c (.int .i64 (.ofNat 0))/\Fr σ σ':=by
 refine aN (vI.o _ _) vI.h ?_
 unfold vI
 dsimp only
 have hA0:=hA
 obtain⟨b,o,c9,rfl,V,hld,hT⟩:=hA.at hk
 have hVk:=hT.kn
 obtain⟨T,hT,hP⟩:=hT
 have hvl:=aY.len hT
 have hbl:=hW.bV hld
 obtain⟨a1,a2⟩:=hl k hk
 have hP0:∀t,t<(ix al k).length->∀i,i<(ix (ix al k) t).length->Xm nc (sO al k) (ix (ix (ix al k) t) i)=0:=λt ht i hi=>by
  unfold Qa at hz;split at hz
  .cases hz
  .exact dY (dY hz t ht) i hi
 have d24:decide ((Int.ofNat 24:Int)<Int.ofNat (ix al k).length)=false:=ap (by show¬((24:Int)<((ix al k).length:Int));omega)
 have hFr:=Fr.refl hW
 simp(disch:=try exact jz) only[go_sem,z3,h1,h2,h3,h4,hVk,hld,hvl,d24]
 generalize ix al k=a at*
 refine bI.mono (Q:=λe tm σ'=>e=.exit 0/\Tr.ah tm 1=.c (.int .i64 (.ofNat k))/\Tr.ah tm 2=.c (.ptr σ.aj 0)/\Tr.ah tm 5=.c (.ptr (σ.aj+1) 0)/\σ'.h σ.aj=some ⟨[m1,m2,m3,C,.sl b o al.length c9],none⟩/\σ'.h (σ.aj+1)=some ⟨[V],none⟩/\Fr σ σ'/\σ.aj+1+1<=σ'.aj)
  (aF (λq tm σ'=>∃j,q=a.length-j/\j<=a.length/\Tr.ah tm 1=.c (.int .i64 (.ofNat k))/\Tr.ah tm 2=.c (.ptr σ.aj 0)/\Tr.ah tm 5=.c (.ptr (σ.aj+1) 0)/\Tr.ah tm 6=.c (.int .i64 (.ofNat j))/\σ'.h σ.aj=some ⟨[m1,m2,m3,C,.sl b o al.length c9],none⟩/\σ'.h (σ.aj+1)=some ⟨[V],none⟩/\Fr σ σ'/\σ.aj+1+1<=σ'.aj) a.length ?_ ?_) ?_
 .refine⟨0,jb,jb,?_⟩
  simp(disch:=try exact jz) only[go_sem,z3,am]
  exact⟨fr,jb⟩
 .rintro q tm σ' ⟨j,rfl,hj,t1,t2,t5,t6,q2,q5,hf,hnx⟩
  simp(disch:=try exact jz) only[go_sem,z3,t1,t2,t5,t6,ak q5,hVk,hvl,aG]
  refine aH (λhlt=>?_) (λhlt=>?_)
  .obtain⟨b2,o2,c2,rfl,ru⟩:=HL.one (aY.hl hT) jb
   have ru:=hf.ld hW (ru j hlt)
   have hlen:=(hP j hlt).len
   have:=a2 j hlt
   have d2:decide ((Int.ofNat 24:Int)<Int.ofNat (ix a j).length)=false:=ap (by show¬((24:Int)<((ix a j).length:Int));omega)
   simp(disch:=try exact jz) only[go_sem,z3,t1,t2,t5,t6,ak q5,ru,hlen,d2]
   exact⟨a.length-(j+1),jb,j+1,rfl,jb,rfl,q2,q5,hf,hnx⟩
  .simp(disch:=try exact jz) only[go_sem,z3,am]
   exact⟨t1,t2,t5,q2,q5,hf,hnx⟩
 .rintro _ tm σ1 ⟨rfl,t1,t2,t5,q2,q5,hf1,hn1⟩
  simp(disch:=try exact jz) only[go_sem,z3,t1,t2,t5]
  refine aF (λq tm σ'=>∃j,q=a.length-j/\j<=a.length/\Tr.ah tm 1=.c (.int .i64 (.ofNat k))/\Tr.ah tm 2=.c (.ptr σ.aj 0)/\Tr.ah tm 5=.c (.ptr (σ.aj+1) 0)/\Tr.ah tm 7=.c (.int .i64 (.ofNat j))/\σ'.h σ.aj=some ⟨[m1,m2,m3,C,.sl b o al.length c9],none⟩/\σ'.h (σ.aj+1)=some ⟨[V],none⟩/\Fr σ σ'/\σ.aj+1+1<=σ'.aj) a.length ?_ ?_
  .refine⟨0,jb,jb,?_⟩
   simp(disch:=try exact jz) only[go_sem,z3,t1,t2,t5,am]
   exact⟨q2,q5,hf1,hn1⟩
  .rintro q tm σ' ⟨j,rfl,hj,t1,t2,t5,t7,q2,q5,hf,hnx⟩
   simp(disch:=try exact jz) only[go_sem,z3,t1,t2,t5,t7,ak q5,hVk,hvl,aG]
   refine aH (λhlt=>?_) (λhlt=>?_)
   .obtain⟨b2,o2,c2,rfl,ru⟩:=HL.one (aY.hl hT) jb
    have avZ:=ru j hlt
    have zY:=hP j hlt
    have hlen:=zY.len
    have ayp:=a2 j hlt
    have hz2:=hP0 j hlt
    have hs2:=hs j hlt
    generalize ix a j=t at*
    simp(disch:=try exact jz) only[go_sem,z3,t1,t2,t5,t7]
    refine aF (λq tm σ3=>∃i,q=t.length-i/\i<=t.length/\Tr.ah tm 1=.c (.int .i64 (.ofNat k))/\Tr.ah tm 2=.c (.ptr σ.aj 0)/\Tr.ah tm 5=.c (.ptr (σ.aj+1) 0)/\Tr.ah tm 7=.c (.int .i64 (.ofNat j))/\Tr.ah tm 8=.c (.int .i64 (.ofNat i))/\σ3.h σ.aj=some ⟨[m1,m2,m3,C,.sl b o al.length c9],none⟩/\σ3.h (σ.aj+1)=some ⟨[.sl b2 o2 a.length c2],none⟩/\Fr σ σ3/\σ.aj+1+1<=σ3.aj) t.length ?_ ?_
    .refine⟨0,jb,jb,?_⟩
     simp(disch:=try exact jz) only[go_sem,z3,t1,t2,t5,t7,am]
     exact⟨q2,q5,hf,hnx⟩
    .rintro q tm3 σ3 ⟨i,rfl,hi,t1,t2,t5,t7,t8,q2,q5,hf3,hn3⟩
     have hle3:=hf3.le
     have ru:=hf3.ld hW avZ
     simp(disch:=try exact jz) only[go_sem,z3,t1,t2,t5,t7,t8,ak q5,ru,hlen,aG]
     refine aH (λhlt3=>?_) (λhlt3=>?_)
     .obtain⟨b5,o5,c5,e5,-,bF⟩:=aY.pos zY jb
      have bF:=hf3.ld hW (bF i hlt3)
      unfold Az at bF
      rw[e5]at ru
      have hl2:=hf3.wf.lt q2
      have hl5:=hf3.wf.lt q5
      have hl6:=hf3.wf.bV bF
      have hl7:=hf3.wf.bV ru
      obtain⟨g1,g2⟩:=Rz (hz2 i hlt3)
      have hsm:=hs2 i hlt3
      have hraw:rq (ix t i).a.n (ix t i).a.s (ix t i).a.d=(ix t i).a.q:=rfl
      have jM:=Fr.refl hf3.wf
      rcases g1 with⟨e1,e2⟩|⟨c,hc,e1,e2⟩
      .rw[e1,e2]at bF
       have hsg:decide (sg (ix t i).a.q<Int.ofNat 0)=false:=ap (g2 e2)
       have f1:decide ((Int.negSucc 0:Int)<Int.negSucc 0)=false:=rfl
       have f2:decide ((Int.ofNat nc:Int)<=Int.negSucc 0)=false:=ap (by show¬((nc:Int)<=-1);omega)
       have f3:decide ((Int.negSucc 0:Int)=Int.negSucc 0)=true:=rfl
       simp(disch:=try exact jz) only[go_sem,z3,t1,t2,t5,t7,t8,ak q5,ru,bF,ak q2,q2,hC,f1,f2,f3,hsg,hraw,h1,h2,h3,h4]
       exact⟨t.length-(i+1),jb,i+1,rfl,jb,rfl,q5,fr,jb⟩
      .rw[e1]at bF e2
       have f1:decide (Int.ofNat c<Int.negSucc 0)=false:=ap (by show¬((c:Int)< -1);omega)
       have f2:decide (Int.ofNat nc<=Int.ofNat c)=false:=ap (by show¬((nc:Int)<=(c:Int));omega)
       have f3:decide (Int.ofNat c=Int.negSucc 0)=false:=rfl
       have key:∀σ5:St,Fr σ3 σ5->aC EN 189 [.agg [m1,m2,m3,C,.sl b o al.length c9],.c (.int .i64 (.ofNat k)),.c (.int .i64 (.ofNat c))] σ5 λr σ'=>r=.c (.bool false)/\Fr σ5 σ':=λσ5 hf5=>by have:=aa4 hf5.wf (hA0.fr hW (hf3.trans hf5)) h1 h2 h3 h4 hl (gx hk) hn (Int.ofNat c);rw[e2]at this;exact this
       cases hb:(ix t i).b with
       |true=>
        rw[hb]at bF
        have hsg:decide (sg (ix t i).a.q<Int.ofNat 0)=false:=ap (g2 hb)
        simp(disch:=try exact jz) only[go_sem,z3,t1,t2,t5,t7,t8,ak q5,ru,bF,ak q2,q2,hC,f1,f2,f3,hsg,hraw,h1,h2,h3,h4]
        refine aC.st (Fr σ3) (fr) λiw=>?_
        refine(key _ iw).mono ?_
        rintro _ σ6 ⟨rfl,gJ⟩
        have jF:=iw.trans gJ
        have yg:=jF.le
        simp(disch:=try exact jz) only[go_sem,z3,t1,t2,t5,t7,t8]
        exact⟨t.length-(i+1),jb,i+1,rfl,jb,rfl,jF.get hf3.wf q2,jF.get hf3.wf q5,hf3.trans jF,jb⟩
       |false=>
        rw[hb]at bF
        simp(disch:=try exact jz) only[go_sem,z3,t1,t2,t5,t7,t8,ak q5,ru,bF,ak q2,q2,hC,f1,f2,f3,h1,h2,h3,h4]
        refine aC.st (Fr σ3) (fr) λiw=>?_
        refine(key _ iw).mono ?_
        rintro _ σ6 ⟨rfl,gJ⟩
        have jF:=iw.trans gJ
        have yg:=jF.le
        simp(disch:=try exact jz) only[go_sem,z3,t1,t2,t5,t7,t8]
        exact⟨t.length-(i+1),jb,i+1,rfl,jb,rfl,jF.get hf3.wf q2,jF.get hf3.wf q5,hf3.trans jF,jb⟩
     .simp(disch:=try exact jz) only[go_sem,z3,t1,t2,t5,t7]
      exact⟨a.length-(j+1),jb,j+1,rfl,jb,rfl,q2,q5,hf3,hn3⟩
   .simp(disch:=try exact jz) only[go_sem,z3,am]
    exact hf
def RI{x:C5}(h:Uu x=0): -1<=x.h/\x.h<8/\0<=x.r/\x.r<=7/\¬sg x.a.q<0:=by
 unfold Uu at h;split at h
 .cases h
 .split at h
  .cases h
  .split at h
   .cases h
   .omega
def RJ{e:zJ}(h:EM e=0):e.c.length<=24/\e.a.length<=12/\¬sg e.m.q<0/\(∀i,i<e.c.length->Uu (ix e.c i)=0)/\∀k,k<e.a.length->Qa e.c.length (sO e.a k) (ix e.a k)=0:=by
 unfold EM at h;split at h
 .cases h
 .split at h
  .cases h
  .split at h
   .next h3=>exact absurd h h3
   .next h1 h2 h3=>exact⟨jb,jb,h2,dY (by simpa using h3),dY h⟩
def tkS(f:Int->Bool)(L:List Int)(l k:Nat):Bool:=f (Int.ofNat k)||(L.take l).contains (Int.ofNat k)
def anG{n l c:Nat}{f:Int->Bool}{L:List Int}(hl:l<L.length)(hc:ix L l=Int.ofNat c):ones n (aP (λk=>B.bool (tkS f L l k)) c (.bool true))=ones n λk=>.bool (tkS f L (l+1) k):=dU λk _=>by
 unfold aP tkS;rw[bC hl,hc,List.contains_append];by_cases e:k=c
 .subst e;rw[ab rfl];simp
 .rw[ae e];have:([Int.ofNat c].contains (Int.ofNat k))=false:=by simp;omega
  rw[this];simp
def anH{l:List gV}{j:Nat}(hj:j<l.length)(k:Nat):tkS (sO l j) (wF (ix l j)) (wF (ix l j)).length k=sO l (j+1) (Int.ofNat k):=by unfold tkS;rw[bR,Q5 hj];congr 1;rw[Bool.eq_iff_iff,List.contains_iff_mem,qM];exact⟨λh=>h.2,λh=>⟨by show(k:Int)≠-1;omega,h⟩⟩
def av1{σ:St}(hW:WF σ){p:Nat->Prop}{e:zJ}{C A:B}(hc:oU p σ.h C e.c)(ha:iW p σ.h A e.a)(hz:EM e=0)(hm:e.m.fits 1000000)(hfc:∀k,k<e.c.length->(ix e.c k).a.fits 1000000)
  (hA:∀j,j<e.a.length->(ix e.a j).length<=1000/\(ix e.a j).flatten.length<=1000000/\(∀k,k<(ix e.a j).flatten.length->(ix (ix e.a j).flatten k).a.fits 1000000)/\∀t∈ix e.a j,∀x∈t,x.k=-1\/0<=x.k/\x.k<e.c.length):
  aC EN 52 [.agg [.bool e.m.n,.str e.m.s,.str e.m.d,C,A]] σ λr σ'=>r=.c (.int .i64 (.ofNat 0))/\Fr σ σ':=by
 refine aN (qO.o _ _) qO.h ?_
 unfold qO
 dsimp only
 obtain⟨h1,h2,h3,h4,h5⟩:=RJ hz
 have hck:=aY.kn hc
 have hcl:=aY.len hc
 have hak:=ha.kn
 have hal:=ha.choose_spec.1.len
 have hFr:=Fr.refl hW
 have hfit:=rF hm jj
 have hraw:rq e.m.n e.m.s e.m.d=e.m.q:=rfl
 have hsg:decide (sg e.m.q<Int.ofNat 0)=false:=ap h3
 have d1:decide ((Int.ofNat 24:Int)<Int.ofNat e.c.length)=false:=ap (by show¬((24:Int)<(e.c.length:Int));omega)
 have d2:decide ((Int.ofNat 12:Int)<Int.ofNat e.a.length)=false:=ap (by show¬((12:Int)<(e.a.length:Int));omega)
 simp(disch:=try exact jz) only[go_sem,z3,hck,hcl,hak,hal,hsg,hraw,d1,d2]
 refine bI.mono (Q:=λex tm σ'=>ex=.exit 1/\Tr.ah tm 1=.c (.ptr σ.aj 0)/\σ'.h σ.aj=some ⟨[.bool e.m.n,.str e.m.s,.str e.m.d,C,A],none⟩/\Fr σ σ'/\σ.aj+1<=σ'.aj)
  (aF (λq tm σ'=>∃i,q=e.c.length-i/\i<=e.c.length/\Tr.ah tm 1=.c (.ptr σ.aj 0)/\Tr.ah tm 28=.c C/\Tr.ah tm 29=.c (.int .i64 (.ofNat e.c.length))/\Tr.ah tm 30=.c (.int .i64 (.ofNat i))/\σ'.h σ.aj=some ⟨[.bool e.m.n,.str e.m.s,.str e.m.d,C,A],none⟩/\Fr σ σ'/\σ.aj+1<=σ'.aj) e.c.length ?_ ?_) ?_
 .refine⟨0,jb,jb,?_⟩
  simp(disch:=try exact jz) only[go_sem,z3,am]
  exact⟨fr,jp⟩
 .rintro q tm σ' ⟨i,rfl,hi,t1,t28,t29,t30,q1,hf,hnx⟩
  simp(disch:=try exact jz) only[go_sem,z3,t1,t28,t29,t30,aG]
  refine aH (λhlt=>?_) (λhlt=>?_)
  .obtain⟨b,o,c,rfl,-,hld⟩:=aY.pos hc jb
   have hld:=hf.ld hW (hld i hlt)
   unfold Uy at hld
   obtain⟨g1,g2,g3,g4,g5⟩:=RI (h4 i hlt)
   have hfit:=rF (hfc i hlt) jj
   have hraw:rq (ix e.c i).a.n (ix e.c i).a.s (ix e.c i).a.d=(ix e.c i).a.q:=rfl
   have hsg:decide (sg (ix e.c i).a.q<Int.ofNat 0)=false:=ap g5
   have e1:decide ((ix e.c i).h<Int.negSucc 0)=false:=ap (by show¬(ix e.c i).h< -1;omega)
   have e2:decide (Int.ofNat 8<=(ix e.c i).h)=false:=ap (by show¬8<=(ix e.c i).h;omega)
   have e3:decide ((ix e.c i).r<Int.ofNat 0)=false:=ap (by show¬(ix e.c i).r<0;omega)
   have e4:decide (Int.ofNat 7<(ix e.c i).r)=false:=ap (by show¬7<(ix e.c i).r;omega)
   have hle:=hf.le
   have jM:=Fr.refl hf.wf
   have hl1:=hf.wf.lt q1
   simp(disch:=try exact jz) only[go_sem,z3,t1,t28,t29,t30,hld,hsg,hraw,e1,e2,e3,e4,q1]
   exact⟨e.c.length-(i+1),jb,i+1,rfl,jb,rfl,fr,jb⟩
  .simp(disch:=try exact jz) only[go_sem,z3,am]
   exact⟨t1,q1,hf,hnx⟩
 .rintro _ Ib σ1 ⟨rfl,t1,q1,hf1,hn1⟩
  have hle1:=hf1.le
  have afy:=Fr.refl hf1.wf
  have hl1:=hf1.wf.lt q1
  simp(disch:=try exact jz) only[go_sem,z3,t1,ak q1,q1,hck,hcl,hak,hal]
  refine aF (λq tm σ'=>∃j,q=e.a.length-j/\j<=e.a.length/\Tr.ah tm 5=.c (.sl σ1.aj 0 e.c.length (.ex e.c.length))/\Tr.ah tm 63=.c A/\Tr.ah tm 64=.c (.int .i64 (.ofNat e.a.length))/\Tr.ah tm 65=.c (.int .i64 (.ofNat j))
   /\σ'.h σ1.aj=some ⟨ones e.c.length λk=>.bool (sO e.a j (Int.ofNat k)),none⟩/\Fr σ σ'/\σ1.aj+1<=σ'.aj) e.a.length ?_ ?_
  .refine⟨0,jb,jb,?_⟩
   simp(disch:=try exact jz) only[go_sem,z3,am]
   exact⟨rfl,fr,jp⟩
  .rintro q tm σ' ⟨j,rfl,hj,t5,t63,t64,t65,q5,hf,hnx⟩
   simp(disch:=try exact jz) only[go_sem,z3,t5,t63,t64,t65,aG]
   refine aH (λhlt=>?_) (λhlt=>?_)
   .obtain⟨b,o,c,rfl,T,hld,hT⟩:=ha.at hlt
    have hld:=hf.ld hW hld
    obtain⟨a1,a2,a3,a4⟩:=hA j hlt
    have JH:=hT.kn
    have hle:=hf.le
    have jM:=Fr.refl hf.wf
    simp(disch:=try exact jz) only[go_sem,z3,t5,t63,t64,t65,hld,JH]
    refine aC.st (Fr σ') (fr) λhF=>?_
    have q5F:=hF.get hf.wf q5
    have hTF:=hT.fr hW (hf.trans hF)
    refine(avY hF.wf hTF (aY.hl (p:=λ_=>True) (bD (G:=λk=>[.bool (sO e.a j (Int.ofNat k))]) (.ex e.c.length) q5F rfl trivial (λ_=>rfl) jj λ_ _=>rfl)) jb (h5 j hlt) a2 a3).mono ?_
    rintro _ σ2 ⟨rfl,hf2⟩
    have hF2:=hF.trans hf2
    have q7:=hf2.get hF.wf (aA _ _ _)
    have d0:decide ((0:Int)=Int.ofNat 0)=true:=rfl
    simp(disch:=try exact jz) only[go_sem,z3,ak q7,JH,t5,d0]
    refine(Ry hf2.wf (hT.fr hW (hf.trans hF2)) jb a2).mono ?_
    rintro _ σ3 ⟨⟨u,rfl,hu⟩,hf3⟩
    have hF3:=hF2.trans hf3
    have hul:=hu.len
    have huk:=hu.kn
    have q53:=hF3.get hf.wf q5
    have hle3:=hF3.le
    have hle2:=hF2.le
    have hm9:=uw a4
    have hall:=anH hlt
    have hu2:=hu.hlp (p:=λb=>σ2.aj<=b) (λ_=>rfl) jj (λ_ _=>rfl) λb h1 _=>h1
    have ayp:(wF (ix e.a j)).length<=1000000000:=by rw[<-OU];exact az (Gi a4) jb
    generalize wF (ix e.a j)=L at*
    have hz0:ones e.c.length (λk=>B.bool (sO e.a j (Int.ofNat k)))=ones e.c.length λk=>.bool (tkS (sO e.a j) L 0 k):=dU λk _=>by unfold tkS;rw[cE];simp
    rw[hz0]at q53
    have ayq:=hf.trans hF3
    simp(disch:=try exact jz) only[go_sem,z3,hul,huk]
    refine bI.mono (Q:=λex tm σ4=>ex=.exit 6/\Tr.ah tm 5=.c (.sl σ1.aj 0 e.c.length (.ex e.c.length))/\Tr.ah tm 63=.c (.sl b o e.a.length c)/\Tr.ah tm 64=.c (.int .i64 (.ofNat e.a.length))/\Tr.ah tm 65=.c (.int .i64 (.ofNat j))
     /\σ4.h σ1.aj=some ⟨ones e.c.length λk=>.bool (tkS (sO e.a j) L L.length k),none⟩/\Fr σ σ4/\σ3.aj<=σ4.aj)
     (aF (λq tm σ4=>∃l,q=L.length-l/\l<=L.length/\Tr.ah tm 5=.c (.sl σ1.aj 0 e.c.length (.ex e.c.length))/\Tr.ah tm 63=.c (.sl b o e.a.length c)/\Tr.ah tm 64=.c (.int .i64 (.ofNat e.a.length))/\Tr.ah tm 65=.c (.int .i64 (.ofNat j))/\Tr.ah tm 76=.c u/\Tr.ah tm 77=.c (.int .i64 (.ofNat L.length))/\Tr.ah tm 78=.c (.int .i64 (.ofNat l))
     /\σ4.h σ1.aj=some ⟨ones e.c.length λk=>.bool (tkS (sO e.a j) L l k),none⟩/\Fr σ σ4/\aT [σ1.aj] σ3 σ4) L.length ?_ ?_) ?_
    .refine⟨0,jb,jb,?_⟩
     simp(disch:=try exact jz) only[go_sem,z3,t5,t63,t64,t65,am]
     exact⟨q53,ayq,(Fr.refl hf3.wf).ex _⟩
    .rintro q tm σ4 ⟨l,rfl,hl,t5,t63,t64,t65,t76,t77,t78,q54,hf4,hfe⟩
     simp(disch:=try exact jz) only[go_sem,z3,t5,t63,t64,t65,t76,t77,t78,aG]
     refine aH (λQi=>?_) (λQi=>?_)
     .obtain⟨b7,o7,c7,rfl,hp7,dB⟩:=aY.pos hu2 jb
      have hp7:σ2.aj<=b7:=hp7
      have dB:=hfe.ld hf3.wf (by simp;omega) (dB l Qi)
      have dB:=(vK dB).1
      obtain⟨m1,m2⟩:=hm9 _ (iM Qi)
      obtain⟨cc,hcc⟩:=cn m1
      have hst:=anG (n:=e.c.length) (f:=sO e.a j) Qi hcc
      have ayr:ix L l=Int.ofNat cc:=hcc
      have hcn:cc<e.c.length:=jb
      have azT:=hf4.wf.lt q54
      have uO:=hfe.le
      have ER:=Fr.refl hf4.wf
      rw[ayr]at dB
      simp(disch:=try exact jz) only[go_sem,z3,t5,t63,t64,t65,t76,t77,t78,dB,q54,aJ q54,hst]
      exact⟨L.length-(l+1),jb,l+1,rfl,jb,rfl,rfl,fr,by repeat(first|assumption|exact aT.refl (by assumption)|exact aT.up (by assumption) kf|exact aT.up (aT.refl (by assumption)) kf|refine aT.set1 ?_ kg kf|refine aT.kZ ?_ kg|refine aT.nJ ?_ kg|refine aT.oh ?_ kf)⟩
     .have:l=L.length:=jb
      subst this
      simp(disch:=try exact jz) only[go_sem,z3,am]
      exact⟨t5,t63,t64,t65,q54,hf4,hfe.le⟩
    .rintro _ tm4 σ4 ⟨rfl,t5,t63,t64,t65,q54,hf4,hn4⟩
     simp(disch:=try exact jz) only[go_sem,z3,t5,t63,t64,t65]
     refine⟨e.a.length-(j+1),jb,j+1,rfl,jb,rfl,?_,hf4,jb⟩
     rw[q54]
     exact cf (λl=>some (Bk.mk l none)) (dU λk _=>cf B.bool (hall k))
   .simp(disch:=try exact jz) only[go_sem,z3,am]
    exact hf
end Go.Proofs.Xe
