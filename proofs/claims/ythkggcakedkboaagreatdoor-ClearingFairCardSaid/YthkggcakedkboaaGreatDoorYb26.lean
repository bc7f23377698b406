import Derived.Test.YthkggcakedkboaaGreatDoorYb25
set_option linter.all false
set_option maxRecDepth 100000
set_option maxHeartbeats 8000000
namespace Go.Proofs.Xe
open Go.RowKit Go.Proofs.Ins
def kT.lt{σ:St}(hW:WF σ){p:Nat->Prop}{v:B}{l:List xO}(hl:kT p σ.h v l):kT (Lt σ.aj) σ.h v l:=by obtain⟨L,h3,h4⟩:=hl;exact⟨L,h3.lt hW,λi hi=>(h4 i hi).lt hW⟩
theorem kT.fr{σ σ':St}(hW:WF σ)(hf:Fr σ σ'){p:Nat->Prop}{v:B}{l:List xO}(hl:kT p σ.h v l):kT (Lt σ.aj) σ'.h v l:=(hl.lt hW).keep hf.lt λ_ h=>h
def arV(dl:List xO)(i c:Int):Prop:=∀j,j<dl.length->∀t,t<(ix dl j).l.length->¬((ix (ix dl j).l t).e=i/\(ix (ix dl j).l t).k=c)
def avu(dl:List xO):Prop:=dl.length<=1000/\∀j,j<dl.length->(ix dl j).l.length<=1000
def ana{σ:St}(hW:WF σ){p:Nat->Prop}{ev dv:B}(dl:List xO)(hD:kT p σ.h dv dl)(hl:avu dl)(h1:ev.kn=true)(i c:Int):
  aC EN 51 [.agg [ev,dv],.c (.int .i64 i),.c (.int .i64 c)] σ λr σ'=>(∃b,r=.c (.bool b)/\(b=false->arV dl i c))/\Fr σ σ':=by
 refine aP (FT.o _ _) FT.h ?_
 unfold FT
 dsimp only
 obtain⟨T,hT,hT2⟩:=hD
 have hlen:=hT.len
 have hkn:=hT.kn
 simp(disch:=try exact jz) only[go_sem,z3,hkn,hlen,h1]
 refine aF (λq tm σ'=>∃j,q=dl.length-j/\j<=dl.length/\Tr.ah tm 1=.c (.int .i64 i)/\Tr.ah tm 2=.c (.int .i64 c)/\Tr.ah tm 12=.c dv/\Tr.ah tm 13=.c (.int .i64 (.ofNat dl.length))/\Tr.ah tm 14=.c (.int .i64 (.ofNat j))/\(∀j',j'<j->∀t,t<(ix dl j').l.length->¬((ix (ix dl j').l t).e=i/\(ix (ix dl j').l t).k=c))/\Fr σ σ') dl.length ?_ ?_
 .refine⟨0,jb,jb,?_⟩
  simp(disch:=try exact jz) only[go_sem,z3,am]
  exact⟨λj' h=>jb,fr⟩
 .rintro q tm σ' ⟨j,rfl,hj,t1,t2,t12,t13,t14,hN,hf⟩
  have hle:=hf.le
  have hl0:=hl.1
  simp(disch:=try exact jz) only[go_sem,z3,t1,t2,t12,t13,t14,aG]
  refine aH (λhlt=>?_) (λhlt=>?_)
  .obtain⟨b,o,cc,rfl,-,hld⟩:=hT.pos jb
   have hld:=hf.ld hW (hld j hlt)
   have hTj:=hT2 j hlt
   have hlj:=hl.2 j hlt
   generalize hag:ix dl j=ag at*
   have aio:=hTj.len
   have axK:=hTj.kn
   simp(disch:=try exact jz) only[go_sem,z3,t1,t2,t12,t13,t14,hld,axK,aio]
   refine aF (λq tm σ3=>∃t,q=ag.l.length-t/\t<=ag.l.length/\Tr.ah tm 1=.c (.int .i64 i)/\Tr.ah tm 2=.c (.int .i64 c)/\Tr.ah tm 12=.c (.sl b o dl.length cc)/\Tr.ah tm 13=.c (.int .i64 (.ofNat dl.length))/\Tr.ah tm 14=.c (.int .i64 (.ofNat j))
    /\Tr.ah tm 19=.c (T j)/\Tr.ah tm 20=.c (.int .i64 (.ofNat ag.l.length))/\Tr.ah tm 21=.c (.int .i64 (.ofNat t))/\(∀t',t'<t->¬((ix ag.l t').e=i/\(ix ag.l t').k=c))/\Fr σ σ3) ag.l.length ?_ ?_
   .refine⟨0,jb,jb,?_⟩
    simp(disch:=try exact jz) only[go_sem,z3,t1,t2,t12,t13,t14,am]
    exact⟨λt' h=>jb,fr⟩
   .rintro q tm3 σ3 ⟨t,rfl,ht,t1,t2,t12,t13,t14,t19,t20,t21,hM,hf3⟩
    have hle3:=hf3.le
    simp(disch:=try exact jz) only[go_sem,z3,t1,t2,t12,t13,t14,t19,t20,t21,aG]
    refine aH (λhlt3=>?_) (λhlt3=>?_)
    .obtain⟨b3,o3,c3,e3,-,uz⟩:=hTj.pos jb
     have uz:=hf3.ld hW (uz t hlt3)
     unfold KN at uz
     rw[e3]at t19
     simp(disch:=try exact jz) only[go_sem,z3,t1,t2,t12,t13,t14,t19,t20,t21,uz]
     refine abH (λhq=>?_) (λhq=>?_)
     .simp(disch:=try exact jz) only[go_sem,z3,t1,t2,t12,t13,t14,t19,t20,t21,hq]
      refine aH (λhq2=>?_) (λhq2=>?_)
      .simp(disch:=try exact jz) only[go_sem,z3,t1]
       exact⟨⟨_,rfl,λh=>by cases h⟩,fr⟩
      .simp(disch:=try exact jz) only[go_sem,z3,t1,t2,t12,t13,t14,t19,t20,t21]
       exact⟨ag.l.length-(t+1),jb,t+1,rfl,jb,by rw[e3],rfl,λt' h'=>by
        by_cases e:t'=t
        .rw[e];exact λh=>hq2 h.2
        .exact hM t' jb,fr⟩
     .simp(disch:=try exact jz) only[go_sem,z3,t1,t2,t12,t13,t14,t19,t20,t21,hq]
      exact⟨ag.l.length-(t+1),jb,t+1,rfl,jb,by rw[e3],rfl,λt' h'=>by
       by_cases e:t'=t
       .rw[e];exact λh=>hq h.1
       .exact hM t' jb,fr⟩
    .have:t=ag.l.length:=jb
     subst this
     simp(disch:=try exact jz) only[go_sem,z3,t1,t2,t12,t13,t14]
     exact⟨dl.length-(j+1),jb,j+1,rfl,jb,rfl,λj' h'=>by
      by_cases e:j'=j
      .rw[e,hag];exact hM
      .exact hN j' jb,hf3⟩
  .have:j=dl.length:=jb
   subst this
   simp(disch:=try exact jz) only[go_sem,z3,t1]
   exact⟨⟨_,rfl,λ_=>hN⟩,hf⟩
structure LI(σ σ':St)(ev dv:B)(d0 d1 d2:Nat)(w:Rat)(l:List Ins.Lg)(bl:Nat):Prop where
 q1:σ'.h σ.aj=some ⟨[ev,dv],none⟩
 q2:σ'.h (σ.aj+1)=some ⟨[.int .u16 (.ofNat d0),.int .u16 (.ofNat d1),.int .u16 (.ofNat d2)],none⟩
 b:σ'.h (σ.aj+1+1)=some ⟨[.bool (rn w),.str (rs w),.str (rd w),lC l bl],none⟩
 lb:0<l.length->σ'.h bl=some ⟨bP l.length (λk=>KN (ix l k)),some (2,68)⟩/\σ.aj+1+1+1<=bl/\bl<σ'.aj
 n:l.length<=4
 nx:σ.aj+1+1+1<=σ'.aj
 fr:Fr σ σ'
structure UY(el:List zC)(dl:List xO)(i j:Nat)(hv:Int)(l:List Ins.Lg):Prop where
 r:∀x∈l,∃e k:Nat,x=⟨.ofNat e,.ofNat k⟩/\e<el.length/\k<(ix el e).c.length/\arV dl (.ofNat e) (.ofNat k)/\holdL el x=hv/\(e<i\/e=i/\k<j)
 nd:l.Nodup
def LGf(el:List zC)(dl:List xO)(l:List Ins.Lg):Prop:=∃hv,UY el dl el.length 0 hv l
section
variable {el:List zC} {dl:List xO} {i j:Nat} {hv hv' : Int} {l:List Ins.Lg}
theorem UY.nil:UY el dl i j hv []:=⟨λx hx=>by simp at hx,List.nodup_nil⟩
def UY.next(h:UY el dl i j hv l):UY el dl i (j+1) hv l:=⟨λx hx=>by obtain⟨e,k,h1,h2,h3,h4,h5,h6⟩:=h.r x hx;exact⟨e,k,h1,h2,h3,h4,h5,jb⟩,h.nd⟩
def UY.row(h:UY el dl i j hv l):UY el dl (i+1) 0 hv l:=⟨λx hx=>by obtain⟨e,k,h1,h2,h3,h4,h5,h6⟩:=h.r x hx;exact⟨e,k,h1,h2,h3,h4,h5,jb⟩,h.nd⟩
def UY.push(h:UY el dl i j hv l)(hi:i<el.length){cl:List C5}(he:(ix el i).c=cl)(hj:j<cl.length)(hN:arV dl (.ofNat i) (.ofNat j))(hh:l=[]\/hv=hv')(hx:(ix cl j).h=hv'):UY el dl i (j+1) hv' (l++[⟨.ofNat i,.ofNat j⟩]):=by
 refine⟨λx hm=>?_,?_⟩
 .rcases bA.mp hm with hm|hm
  .obtain⟨e,k,h1,h2,h3,h4,h5,h6⟩:=h.r x hm;rcases hh with hh|hh
   .rw[hh]at hm;cases hm
   .exact⟨e,k,h1,h2,h3,h4,by rw[h5,hh],jb⟩
  .rw[eC]at hm;subst hm;refine⟨i,j,rfl,hi,by rw[he];exact hj,hN,?_,jb⟩;show(ix (ix el i).c j).h=_;rw[he];exact hx
 .rw[eZ];refine⟨h.nd,(gm.mpr ⟨List.not_mem_nil,List.nodup_nil⟩),λa ha b hb e=>?_⟩;rw[eC]at hb;subst hb;obtain⟨e',k,h1,-,-,-,-,h6⟩:=h.r a ha;rw[e]at h1;have h7:=(Ins.Lg.mk.inj h1).1;have h8:=(Ins.Lg.mk.inj h1).2;have h7:=Int.ofNat.inj h7;have h8:=Int.ofNat.inj h8;omega
def UY.perm{l':List Ins.Lg}(h:UY el dl i j hv l)(hp:l'.Perm l):UY el dl i j hv l':=⟨λx hx=>h.r x (hp.mem_iff.mp hx),hp.nodup_iff.mpr h.nd⟩
def swap_perm{l:List Ins.Lg}{i j:Nat}(hi:i<l.length)(hj:j<l.length):((l.set i (ix l j)).set j (ix l i)).Perm l:=by rw[fD hi,fD hj];exact List.set_set_perm hi hj
end
section
variable {σ σ' : St} {ev dv:B} {d0 d1 d2:Nat} {w:Rat} {l:List Ins.Lg} {bl:Nat}
def LI.step(hL:LI σ σ' ev dv d0 d1 d2 w l bl){σ3:St}(hf:Fr σ' σ3):LI σ σ3 ev dv d0 d1 d2 w l bl:=by
 have hn:=hL.nx;have hle:=hf.le;refine⟨?_,?_,?_,λh0=>?_,hL.n,jb,hL.fr.trans hf⟩
 .rw[hf.old _ jb];exact hL.q1
 .rw[hf.old _ jb];exact hL.q2
 .rw[hf.old _ jb];exact hL.b
 .obtain⟨k1,k2,k3⟩:=hL.lb h0;exact⟨by rw[hf.old _ k3];exact k1,k2,jb⟩
def LI.push(hL:LI σ σ' ev dv d0 d1 d2 w l bl){nx n':Nat}{x:Ins.Lg}{h':Tr Bk}(hl:l.length<=3)(hb:h' (σ.aj+1+1)=some ⟨[.bool (rn w),.str (rs w),.str (rd w),.sl nx 0 (l.length+1) .opn],none⟩)
  (hx:h' nx=some ⟨bP l.length (λk=>KN (ix l k))++KN x,some (2,68)⟩) (ho:∀b,b<σ.aj+1+1->h' b=σ'.h b) (hn:σ'.aj<=nx) (hn':nx<n') (hf:Fr σ ⟨h',n'⟩):LI σ ⟨h',n'⟩ ev dv d0 d1 d2 w (l++[x]) nx:=by
 have hn1:=hL.nx
 refine⟨by rw[ho _ jb];exact hL.q1,by rw[ho _ jb];exact hL.q2,?_,λ_=>⟨?_,jb,hn'⟩,by simp;omega,by show _<=n';omega,hf⟩
 .rw[jc kc,az];exact hb
 .rw[az,bX]
  show h' nx=_
  rw[hx,mF]
  congr 2
  refine cO λk hk=>?_
  unfold ji
  split
  .next e=>rw[e,gV]
  .rw[gU _ _ jb]
def LI.set(hL:LI σ σ' ev dv d0 d1 d2 w l bl){h':Tr Bk}{l':List Ins.Lg}(h0:0<l.length)(hl:l'.length=l.length)(hb:h' bl=some ⟨bP l.length (λk=>KN (ix l' k)),some (2,68)⟩)(ho:∀b,b≠bl->h' b=σ'.h b)(hf:Fr σ ⟨h',σ'.aj⟩):LI σ ⟨h',σ'.aj⟩ ev dv d0 d1 d2 w l' bl:=by have hn1:=hL.nx;obtain⟨k1,k2,k3⟩:=hL.lb h0;refine⟨by rw[ho _ jb];exact hL.q1,by rw[ho _ jb];exact hL.q2,?_,λ_=>⟨by rw[hl];exact hb,k2,k3⟩,by rw[hl];exact hL.n,hL.nx,hf⟩;rw[ho _ jb,hL.b];unfold lC;rw[hl]
def arW(l:List Ins.Lg):l.length*2<=(bP l.length (λk=>KN (ix l k))).length:=by rw[qL (e:=2) λ_=>rfl];exact jp
def anb(l:List Ins.Lg):(bP l.length (λk=>KN (ix l k))).take (l.length*2)=bP l.length (λk=>KN (ix l k)):=zY λ_=>rfl
def ao2{n i:Nat}(l:List Ins.Lg)(hn:l.length=n)(y:Ins.Lg)(hi:i<n):yj (bP n λk=>KN (ix l k)) (i*2) [.int .i64 y.e,.int .i64 y.k]=some (bP n λk=>KN (ix (l.set i y) k)):=by
 have:=Aq (e:=2) (k:=0) (vs:=KN y) (G:=λk=>KN (ix l k)) (λ_=>rfl) hi (by exact cU 2);rw[cE]at this;show yj _ _ (KN y)=_;rw[this];show some _=some _;congr 1;refine cO λk hk=>?_;unfold ji;rw[show ix (l.set i y) k=if k=i then y else ix l k by
  unfold ix;rw[ft,ft,List.getElem?_set];by_cases e:k=i
  .subst e;rw[ab rfl,ab rfl,ab jb];rfl
  .rw[ae e,ae (Ne.symm e)]]
 split<;>rfl
def ao3{n i:Nat}(l:List Ins.Lg)(hi:i<n):zH (bP n λk=>KN (ix l k)) (i*2) 2 true=some (.agg [.int .i64 (ix l i).e,.int .i64 (ix l i).k]):=by have:=yS (e:=2) (k:=0) (m:=2) (G:=λk=>KN (ix l k)) true (λ_=>rfl) hi jj jj;rw[cE]at this;rw[this];rfl
end
def yA.at{p:Nat->Prop}{h:Tr Bk}{v:B}{el:List zC}(hE:yA p h v el){i:Nat}(hi:i<el.length):∃b o c,v=.sl b o el.length c/\∃C A:B,ld h b (o+i*5) 5 true=some (.agg [.bool (ix el i).m.n,.str (ix el i).m.s,.str (ix el i).m.d,C,A])/\ld h b (o+i*5+3) 1 false=some (.c C)/\Au p h C (ix el i).c/\jk p h A (ix el i).a:=by obtain⟨C,A,h1,h2⟩:=hE;obtain⟨b,o,c,e,-,hld⟩:=h1.pos jb;refine⟨b,o,c,e,C i,A i,hld i hi,?_,h2 i hi⟩;rw[uS (hld i hi) 3 1 false jj jj];unfold zH;have:=(h2 i hi).1.kn;simp[this]
theorem yA.fr{σ σ':St}(hW:WF σ)(hf:Fr σ σ'){p:Nat->Prop}{v:B}{l:List zC}(hl:yA p σ.h v l):yA (Lt σ.aj) σ'.h v l:=by obtain⟨C,A,h1,h2⟩:=hl;exact⟨C,A,h1.fr hW hf,λi hi=>⟨aZ.fr hW hf (h2 i hi).1,(h2 i hi).2.fr hW hf⟩⟩
def yA.len{p:Nat->Prop}{h:Tr Bk}{v:B}{l:List zC}(hl:yA p h v l):lenV (.c v)=some (.c (.int .i64 (.ofNat l.length))):=hl.choose_spec.choose_spec.1.len
def kT.el{p:Nat->Prop}{h:Tr Bk}{v:B}{dl:List xO}(hD:kT p h v dl){i:Nat}(hi:i<dl.length):∃b o c,v=.sl b o dl.length c/\∃T:B,ld h b (o+i*4) 4 true=some (.agg [.bool (ix dl i).w.n,.str (ix dl i).w.s,.str (ix dl i).w.d,T])/\CP p h T (ix dl i).l:=by obtain⟨L,h1,h2⟩:=hD;obtain⟨b,o,c,e,-,hld⟩:=h1.pos jb;exact⟨b,o,c,e,L i,hld i hi,h2 i hi⟩
def kT.len{p:Nat->Prop}{h:Tr Bk}{v:B}{dl:List xO}(hD:kT p h v dl):lenV (.c v)=some (.c (.int .i64 (.ofNat dl.length))):=hD.choose_spec.1.len
def avv:oL .sub (.c (.int .i64 (.ofNat 0))) (.c (.int .i64 (.ofNat 1)))=some (.c (.int .i64 (.negSucc 0))):=rfl
def axL:decide (Int.ofNat 0<Int.negSucc 0)=false:=rfl
def anc{σ σ':St}{ev dv:B}{d0 d1 d2:Nat}{w:Rat}{l:List Ins.Lg}{bl:Nat}{dl:List xO}(hW:WF σ){p:Nat->Prop}{T:Nat->B}(hT2:∀j,j<dl.length->CP p σ.h (T j) (ix dl j).l)(hT1:aZ p σ.h 4 dv dl.length (λi=>[.bool (ix dl i).w.n,.str (ix dl i).w.s,.str (ix dl i).w.d,T i]))(hL:LI σ σ' ev dv d0 d1 d2 w l bl){el:List zC}(hG:LGf el dl l)
  {h':Tr Bk}{n' rb:Nat}(hr:h' rb=some ⟨bP (dl.length+1) (λj=>if j<dl.length then [.bool (ix dl j).w.n,.str (ix dl j).w.s,.str (ix dl j).w.d,T j]else [.bool (rn w),.str (rs w),.str (rd w),lC l bl]),some (4,66)⟩) (ho:∀b,b<σ'.aj->h' b=σ'.h b) (hrb:σ'.aj<=rb) (hn:rb<n') (hf:Fr σ ⟨h',n'⟩):
  (∃rv d,V.c (.sl rb 0 (dl.length+1) .opn)=.c rv/\kT (λb=>p b\/σ.aj<=b/\b<n') h' rv (dl++[d])/\d.l.length<=4/\d.w=tN w/\LGf el dl d.l)/\Fr σ ⟨h',n'⟩:=by
 have hle:=hL.fr.le
 have hn1:=hL.nx
 refine⟨⟨_,⟨tN w,l⟩,rfl,⟨λj=>if j<dl.length then T j else lC l bl,?_,λj hj=>?_⟩,hL.n,rfl,hG⟩,hf⟩
 .have:(dl++[(⟨tN w,l⟩:xO)]).length=dl.length+1:=by simp
  rw[this]
  have YX:∀j,j<dl.length->(T j).kn=true:=λj hj=>(hT2 j hj).kn
  refine(bf (p:=λb=>p b\/σ.aj<=b/\b<n') _ hr rfl (.inr ⟨jb,hn⟩) (λj=>?_) jj λj hj=>?_).congr λj hj=>?_
  .split<;>rfl
  .split
   .next e=>simp only[cY,fa,YX j e,Ap,FI,eE]
   .simp only[cY,fa,qZ,Ap,FI,eE]
  .dsimp only
   split
   .next e=>rw[gU _ _ e]
   .next e=>
    obtain rfl:j=dl.length:=jb
    rw[gV];rfl
 .have hj':j<dl.length+1:=by simpa using hj
  dsimp only
  by_cases e:j<dl.length
  .rw[ab e,gU _ _ e]
   refine(aZ.plt hW (hT2 j e)).keep (λb hb=>?_) λb hb=>.inl hb.1
   rw[ho b jb,hL.fr.old b hb.2]
  .rw[ae e]
   obtain rfl:j=dl.length:=jb
   rw[gV]
   by_cases h0:l.length=0
   .exact .inl ⟨h0,by unfold lC;rw[ab h0]⟩
   .obtain⟨k1,k2,k3⟩:=hL.lb jb
    rw[jc jb]
    exact bf (p:=λb=>p b\/σ.aj<=b/\b<n') _ (by rw[ho _ k3];exact k1) rfl (.inr ⟨jb,jb⟩) (λ_=>rfl) jj λ_ _=>rfl
def avw{σ:St}(hW:WF σ){p p':Nat->Prop}{ev dv:B}(el:List zC)(dl:List xO)(hE:yA p' σ.h ev el)(hD:kT p σ.h dv dl)(hl:avu dl)(hel:el.length<=1000)(hcl:∀i,i<el.length->(ix el i).c.length<=1000)
  (d0 d1 d2:Nat) (b0:d0<=65535) (b1:d1<=65535) (b2:d2<=65535):
  aC EN 29 [.agg [ev,dv],.agg [.int .u16 (.ofNat d0),.int .u16 (.ofNat d1),.int .u16 (.ofNat d2)]] σ λr σ'=>(∃rv d,r=.c rv/\kT (λb=>p b\/σ.aj<=b/\b<σ'.aj) σ'.h rv (dl++[d])/\d.l.length<=4/\d.w=tN (amt d2)/\LGf el dl d.l)/\Fr σ σ':=by
 refine aP (NR.o _ _) NR.h ?_
 unfold NR
 dsimp only
 have hek:=hE.kn
 have hdk:=hD.kn
 have hlenE:=hE.len
 simp(disch:=try exact jz) only[go_sem,z3,hek,hdk,hlenE]
 refine bJ.mono (Q:=λe tm σ'=>e=.exit 0/\∃l bl,Tr.ah tm 2=.c (.ptr σ.aj 0)/\Tr.ah tm 3=.c (.ptr (σ.aj+1) 0)/\Tr.ah tm 5=.c (.ptr (σ.aj+1+1) 0)/\LGf el dl l/\LI σ σ' ev dv d0 d1 d2 (amt d2) l bl)
  (aF (λq tm σ'=>∃i k hv l bl,q=el.length-i/\i<=el.length/\k<=i*1000/\Tr.ah tm 2=.c (.ptr σ.aj 0)/\Tr.ah tm 3=.c (.ptr (σ.aj+1) 0)/\Tr.ah tm 5=.c (.ptr (σ.aj+1+1) 0)/\Tr.ah tm 6=.c (.int .i64 (.ofNat k))/\Tr.ah tm 7=.c (.int .i64 hv)/\Tr.ah tm 20=.c (.int .i64 (.ofNat el.length))/\Tr.ah tm 21=.c (.int .i64 (.ofNat i))
   /\UY el dl i 0 hv l/\LI σ σ' ev dv d0 d1 d2 (amt d2) l bl) el.length ?_ ?_) ?_
 .refine⟨0,0,0,[],0,jb,jb,jb,?_⟩
  simp(disch:=try exact jz) only[go_sem,z3,am]
  refine⟨rfl,UY.nil,?_,?_,?_,λh=>by simp at h,bw _,jp,?_⟩
  .simp(disch:=omega) only[au,aA]
  .simp(disch:=omega) only[au,aA]
  .rw[aA];rfl
  .exact fr
 .rintro q tm σ' ⟨i,k,hv,l,bl,rfl,hi,hk,t2,t3,t5,t6,t7,t20,t21,hG,hL⟩
  simp(disch:=try exact jz) only[go_sem,z3,t2,t3,t5,t6,t7,t20,t21,aG]
  refine aH (λhlt=>?_) (λhlt=>?_)
  .obtain⟨b,o,c,rfl,C,A,aeQ,uz,hC,-⟩:=hE.at hlt
   have uz:=hL.fr.ld hW uz
   have azp:=hcl i hlt
   generalize hei:(ix el i).c=cl at*
   have XZ:=hC.len
   have azq:=hC.kn
   have q1:=hL.q1
   have q2:=hL.q2
   simp(disch:=try exact jz) only[go_sem,z3,t2,t3,t5,t6,t7,t20,t21,ak q1,hek,hdk,uz,XZ]
   refine aF (λq tm σ3=>∃j k hv l bl,q=cl.length-j/\j<=cl.length/\k<=i*1000+j/\Tr.ah tm 2=.c (.ptr σ.aj 0)/\Tr.ah tm 3=.c (.ptr (σ.aj+1) 0)/\Tr.ah tm 5=.c (.ptr (σ.aj+1+1) 0)/\Tr.ah tm 6=.c (.int .i64 (.ofNat k))/\Tr.ah tm 7=.c (.int .i64 hv)/\Tr.ah tm 8=.c (.int .i64 (.ofNat i))/\Tr.ah tm 20=.c (.int .i64 (.ofNat el.length))/\Tr.ah tm 21=.c (.int .i64 (.ofNat i))
    /\Tr.ah tm 29=.c C/\Tr.ah tm 30=.c (.int .i64 (.ofNat cl.length))/\Tr.ah tm 31=.c (.int .i64 (.ofNat j))/\UY el dl i j hv l/\LI σ σ3 (.sl b o el.length c) dv d0 d1 d2 (amt d2) l bl) cl.length ?_ ?_
   .refine⟨0,k,hv,l,bl,jb,jb,jb,?_⟩
    simp(disch:=try exact jz) only[go_sem,z3,t2,t3,t5,t6,t7,t20,t21,am]
    exact⟨hG,hL⟩
   .rintro q tm3 σ3 ⟨j,k3,hv3,l3,bl3,rfl,hj,hk3,t2,t3,t5,t6,t7,t8,t20,t21,t29,t30,t31,hG3,hL3⟩
    simp(disch:=try exact jz) only[go_sem,z3,t2,t3,t5,t6,t7,t8,t20,t21,t29,t30,t31,aG]
    refine aH (λhlt3=>?_) (λhlt3=>?_)
    .obtain⟨b5,o5,c5,e5,-,dw⟩:=hC.pos jb
     have dw:=hL3.fr.ld hW (dw j hlt3)
     unfold c5B at dw
     have q1:=hL3.q1
     have q2:=hL3.q2
     have hn3:=hL3.nx
     have hle3:=hL3.fr.le
     rw[e5]at t29
     simp(disch:=try exact jz) only[go_sem,z3,t2,t3,t5,t6,t7,t8,t20,t21,t29,t30,t31,dw,ak q1,hek,hdk]
     refine aC.st (Fr σ3) (by have hF:=Fr.refl hL3.fr.wf;exact fr) λhF3=>?_
     refine(ana hF3.wf dl ((hD.fr hW hL3.fr).fr hL3.fr.wf hF3) hl hek (.ofNat i) (.ofNat j)).mono ?_
     rintro _ σ4 ⟨⟨fb,rfl,hNT⟩,hf4⟩
     have nN:=hF3.trans hf4
     have hL4:=hL3.step nN
     have uH:=nN.le
     have hn4:=hL4.nx
     have b4:=hL4.b
     have q2:=hL4.q2
     have hll:=hL4.n
     have acI:=Ip l3 bl3
     have X0:=qZ l3 bl3
     have htb:σ4.h σ3.aj=some ⟨[.int .i64 (ix cl j).h,.int .i64 (ix cl j).r,.bool (ix cl j).a.n,.str (ix cl j).a.s,.str (ix cl j).a.d],none⟩:=hf4.get hF3.wf (aA _ _ _)
     have hr0:=yx d0 (2^min (k3%16) 64) 9223372036854775807 jb
     have hk5:k3<=2000000:=by have:=bp 1000 (show i<=1000 by omega);omega
     have azr:k3%16<16:=dy _ jj
     cases fb
     .simp(disch:=try exact jz) only[go_sem,z3,t2,t3,t5,t6,t7,t8,t20,t21,t30,t31,ak b4,acI,X0]
      refine aH (λhl4=>?_) (λhl4=>?_)
      .simp(disch:=try exact jz) only[go_sem,z3,t2,t3,t5,t6,t7,t8,t20,t21,t30,t31]
       exact⟨cl.length-(j+1),jb,j+1,k3,hv3,l3,bl3,rfl,jb,jb,rfl,rfl,by rw[e5];exact t29,rfl,hG3.next,hL4⟩
      .simp(disch:=try exact jz) only[go_sem,z3,t2,t3,t5,t6,t7,t8,t20,t21,t30,t31,ak q2]
       have azs:=hL4.fr
       have hl5:l3.length<=3:=by have h9:¬((4:Nat):Int)<=(l3.length:Int):=hl4;omega
       have ayU:σ3.aj<=σ4.aj:=nN.le
       refine abH (λhw=>?_) (λhw=>?_)
       .by_cases hz:l3.length=0
        .have he:lC l3 bl3=.aX:=by unfold lC;rw[ab hz]
         simp(disch:=try exact jz) only[go_sem,z3,t2,t3,t5,t6,t7,t8,t20,t21,t30,t31,hw,ak b4,b4,he,ak htb]
         refine⟨cl.length-(j+1),jb,j+1,k3+1,_,l3++[⟨.ofNat i,.ofNat j⟩],_,rfl,jb,jb,rfl,rfl,by rw[e5];exact t29,rfl,hG3.push hlt hei hlt3 (hNT rfl) (.inl (fS hz)) rfl,LI.push (nx:=σ4.aj+1) hL4 jb ?_ ?_ ?_ ?_ ?_ ?_⟩
         .rw[aA,hz]
         .rw[au _ _ _ _ jb,aA,hz];rfl
         .intro b9 h9;simp(disch:=omega) only[au]
         .omega
         .omega
         .exact fr
        .have he:=jc (l:=l3) jb bl3
         obtain⟨k1,k2,k9⟩:=hL4.lb jb
         have hpl:=arW l3
         have hpt:=anb l3
         have hz2:¬(0=l3.length):=jb
         simp(disch:=try exact jz) only[go_sem,z3,t2,t3,t5,t6,t7,t8,t20,t21,t30,t31,hw,ak b4,b4,he,ak htb,hz,k1,hpt]
         refine aH (λhh=>?_) (λhh=>?_)
         .simp(disch:=try exact jz) only[go_sem,z3,t2,t3,t5,t6,t7,t8,t20,t21,t30,t31,hw,ak b4,b4,he,ak htb,hz,k1,hpt]
          refine⟨cl.length-(j+1),jb,j+1,k3+1,_,l3++[⟨.ofNat i,.ofNat j⟩],_,rfl,jb,jb,rfl,rfl,by rw[e5];exact t29,rfl,hG3.push hlt hei hlt3 (hNT rfl) (.inr (by first|exact hh|exact hh.symm)) rfl,LI.push (nx:=σ4.aj+1) hL4 jb ?_ ?_ ?_ ?_ ?_ ?_⟩
          .rw[aA]
          .rw[au _ _ _ _ jb,aA];rfl
          .intro b9 h9;simp(disch:=omega) only[au,iE]
          .omega
          .omega
          .exact fr
         .simp(disch:=try exact jz) only[go_sem,z3,t2,t3,t5,t6,t7,t8,t20,t21,t30,t31,hw]
          exact⟨cl.length-(j+1),jb,j+1,k3+1,hv3,l3,bl3,rfl,jb,jb,rfl,rfl,by rw[e5];exact t29,rfl,hG3.next,hL4⟩
       .simp(disch:=try exact jz) only[go_sem,z3,t2,t3,t5,t6,t7,t8,t20,t21,t30,t31,hw]
        exact⟨cl.length-(j+1),jb,j+1,k3+1,hv3,l3,bl3,rfl,jb,jb,rfl,rfl,by rw[e5];exact t29,rfl,hG3.next,hL4⟩
     .simp(disch:=try exact jz) only[go_sem,z3,t2,t3,t5,t6,t7,t8,t20,t21,t30,t31]
      exact⟨cl.length-(j+1),jb,j+1,k3,hv3,l3,bl3,rfl,jb,jb,rfl,rfl,by rw[e5];exact t29,rfl,hG3.next,hL4⟩
    .have:j=cl.length:=jb
     subst this
     simp(disch:=try exact jz) only[go_sem,z3,t2,t3,t5,t6,t7,t8,t20,t21,t29,t30,t31]
     exact⟨el.length-(i+1),jb,i+1,k3,hv3,l3,bl3,rfl,jb,jb,rfl,rfl,rfl,hG3.row,hL3⟩
  .have hie:i=el.length:=jb
   simp(disch:=try exact jz) only[go_sem,z3,am]
   exact⟨l,bl,t2,t3,t5,⟨hv,hie▸hG⟩,hL⟩
 .rintro _ tm σ' ⟨rfl,l,bl,t2,t3,t5,⟨hvf,hG⟩,hL⟩
  show bJ EN (.seq _ _) _ _ _
  refine acC (λtm σ3=>∃l bl,Tr.ah tm 2=.c (.ptr σ.aj 0)/\Tr.ah tm 5=.c (.ptr (σ.aj+1+1) 0)/\LGf el dl l/\LI σ σ3 ev dv d0 d1 d2 (amt d2) l bl) ?_ ?_
  .have q2:=hL.q2
   have hF:=hL.fr
   have b5:=hL.b
   have hn:=hL.n
   have acI:=Ip l bl
   have X0:=qZ l bl
   simp(disch:=try exact jz) only[go_sem,z3,t2,t3,t5,ak q2]
   refine aH (λhr=>?_) (λhr=>?_)
   .by_cases hz:l.length=0
    .simp(disch:=try exact jz) only[go_sem,z3,t2,t3,t5,ak b5,acI,X0,hz,avv]
     refine aF (λq tm σ3=>q=0/\σ3=σ'/\Tr.ah tm 2=.c (.ptr σ.aj 0)/\Tr.ah tm 5=.c (.ptr (σ.aj+1+1) 0)/\Tr.ah tm 12=.c (.int .i64 (.ofNat 0))/\Tr.ah tm 13=.c (.int .i64 (.negSucc 0))) 0 ?_ ?_
     .simp(disch:=try exact jz) only[go_sem,z3,am]
      exact⟨t2,t5⟩
     .rintro q tm σ3 ⟨rfl,rfl,t2,t5,t12,t13⟩
      simp(disch:=try exact jz) only[go_sem,z3,t2,t5,t12,t13,axL,am]
      exact⟨l,bl,⟨hvf,hG⟩,hL⟩
    .have h11:1<=l.length:=jb
     simp(disch:=try exact jz) only[go_sem,z3,t2,t3,t5,ak b5,acI,X0]
     refine aF (λq tm σ3=>∃i j l3,q=l.length-i/\i<=l.length/\j<l.length/\l3.length=l.length/\Tr.ah tm 2=.c (.ptr σ.aj 0)/\Tr.ah tm 5=.c (.ptr (σ.aj+1+1) 0)/\Tr.ah tm 12=.c (.int .i64 (.ofNat i))/\Tr.ah tm 13=.c (.int .i64 (.ofNat j))/\UY el dl el.length 0 hvf l3/\LI σ σ3 ev dv d0 d1 d2 (amt d2) l3 bl) l.length ?_ ?_
     .refine⟨0,l.length-1,l,jb,jb,jb,rfl,?_⟩
      simp(disch:=try exact jz) only[go_sem,z3,t2,t5,am]
      exact⟨hG,hL⟩
     .rintro q tm σ3 ⟨i,j,l3,rfl,hi,hj,hl3,t2,t5,t12,t13,hG3,hL3⟩
      simp(disch:=try exact jz) only[go_sem,z3,t2,t5,t12,t13,aG]
      refine aH (λhij=>?_) (λhij=>?_)
      .have b5:=hL3.b
       have he:=jc (l:=l3) jb bl
       rw[he]at b5
       obtain⟨k1,k2,k9⟩:=hL3.lb jb
       have hn3:=hL3.nx
       have hF3:=hL3.fr
       have hle:=hF3.le
       rw[hl3]at b5 k1
       have r1:=ao3 (n:=l.length) (i:=i) l3 jb
       have r2:=ao3 (n:=l.length) (i:=j) l3 hj
       have w1:=ao2 (n:=l.length) (i:=i) l3 hl3 (ix l3 j) jb
       have w2:=ao2 (n:=l.length) (i:=j) (l3.set i (ix l3 j)) (by simp[hl3]) (ix l3 i) hj
       simp(disch:=try exact jz) only[go_sem,z3,t2,t5,t12,t13,ak b5,ak k1,aJ k1,r1,r2,w1,w2]
       refine⟨l.length-(i+1),jb,i+1,j-1,(l3.set i (ix l3 j)).set j (ix l3 i),rfl,jb,jb,by simp[hl3],rfl,rfl,hG3.perm (swap_perm jb jb),hL3.set jb kc ?_ ?_ ?_⟩
       .rw[aA,hl3]
       .intro b9 h9
        rw[au _ _ _ _ h9,au _ _ _ _ h9]
       .exact fr
      .simp(disch:=try exact jz) only[go_sem,z3,t2,t5,t12,t13,am]
       exact⟨l3,bl,⟨hvf,hG3⟩,hL3⟩
   .simp(disch:=try exact jz) only[go_sem,z3,am]
    exact⟨l,bl,t2,t5,⟨hvf,hG⟩,hL⟩
  .rintro tm σ3 ⟨l,bl,t2,t5,hG,hL⟩
   have hF:=hL.fr
   have hle:=hL.fr.le
   have hn:=hL.nx
   have b5:=hL.b
   have q1:=hL.q1
   have X0:=qZ l bl
   obtain⟨T,hT1,hT2⟩:=hD
   have hdl:=hl.1
   have hfin:=λ(h':Tr Bk) (n' rb:Nat)=>anc (h':=h') (n':=n') (rb:=rb) hW hT2 hT1 hL hG
   by_cases h0:dl.length=0
   .have hA0:dv=.aX\/∃b o c,dv=.sl b o 0 c:=by
     rcases hT1 with⟨-,e⟩|⟨b,o,c,e,-⟩
     .exact .inl e
     .exact .inr ⟨b,o,c,by rw[e,h0]⟩
    have hend:∀h':Tr Bk,h'=hset (hset σ3.h σ3.aj ⟨[.bool (rn (amt d2)),.str (rs (amt d2)),.str (rd (amt d2)),lC l bl],none⟩) (σ3.aj+1) ⟨[.bool (rn (amt d2)),.str (rs (amt d2)),.str (rd (amt d2)),lC l bl],some (4,66)⟩->(∃rv d,V.c (.sl (σ3.aj+1) 0 1 .opn)=.c rv/\kT (λb=>p b\/σ.aj<=b/\b<σ3.aj+1+1) h' rv (dl++[d])/\d.l.length<=4/\d.w=tN (amt d2)/\LGf el dl d.l)/\Fr σ ⟨h',σ3.aj+1+1⟩:=λh' e=>by subst e;have:=hfin (hset (hset σ3.h σ3.aj ⟨[.bool (rn (amt d2)),.str (rs (amt d2)),.str (rd (amt d2)),lC l bl],none⟩) (σ3.aj+1) ⟨[.bool (rn (amt d2)),.str (rs (amt d2)),.str (rd (amt d2)),lC l bl],some (4,66)⟩) (σ3.aj+1+1) (σ3.aj+1) (by rw[aA,h0];rfl) (λb9 h9=>by simp(disch:=omega) only[au]) jb jb (fr);rw[h0]at this;exact this
    rcases hA0 with rfl|⟨b,o,c,rfl⟩
    .simp(disch:=try exact jz) only[go_sem,z3,t2,t5,ak q1,ak b5,hek,X0]
     exact hend _ rfl
    .simp(disch:=try exact jz) only[go_sem,z3,t2,t5,ak q1,ak b5,hek,X0]
     exact hend _ rfl
   .obtain⟨b,o,c,rfl,-,hld⟩:=hT1.pos jb
    have hbl:=hW.bH (hld 0 jb)
    obtain⟨kk,e1,e2,e3,e4,e5⟩:=QN jb λi hi=>hF.ld hW (hld i hi)
    have hct:=zY (e:=4) (n:=dl.length) (G:=λi=>[B.bool (ix dl i).w.n,.str (ix dl i).w.s,.str (ix dl i).w.d,T i]) λ_=>rfl
    have hcn:dl.length*4<=(bP dl.length λi=>[B.bool (ix dl i).w.n,.str (ix dl i).w.s,.str (ix dl i).w.d,T i]).length:=by rw[e4];exact jp
    simp(disch:=try exact jz) only[go_sem,z3,t2,t5,ak q1,ak b5,hek,X0,e1,e3,e4,e5,e2,hct]
    refine hfin _ _ _ ?_ ?_ jb jb ?_
    .rw[aA,mF]
     congr 2
     refine cO λj hj=>?_
     unfold ji
     by_cases e:j=dl.length
     .rw[ab e,ae jb]
     .rw[ae e,ab jb]
    .intro b9 h9
     simp(disch:=omega) only[au,iE]
    .exact fr
def lkC(o:Option Bk)(e j:Int):Option V:=match o with
 |some ⟨c,some (0,0)⟩=>bif IZ .i64 e&&IZ .i64 j then some (.c (.bool (hasB c e j)))else none
 |_=>none
def upC(o:Option Bk)(e j:Int):Option Bk:=match o with
 |some ⟨c,some (0,0)⟩=>bif IZ .i64 e&&(IZ .i64 j&&Nat.ble c.length 1000)then some ⟨c++[.int .i64 e,.int .i64 j],some (0,0)⟩else none
 |_=>none
def aiQ(m k x:O)(tm:Tr V)(σ:St):um (.Tf m k x) tm σ=match m.ev tm,k.ev tm,x.ev tm with
  |.c (.mp b),.agg [.int .i64 e,.int .i64 j],.c (.bool true)=>(match upC (σ.h b) e j with|some k=>some (.und,⟨hset σ.h b k,σ.aj⟩)|none=>none)
  |_,_,_=>none:=by
 simp only[um]
 generalize m.ev tm=M
 generalize k.ev tm=Y
 generalize x.ev tm=X
 rcases M with⟨_|_|_|_|_|_|_|_|b|_⟩|_|_|_|_|_|_<;>try rfl
 rcases Y with _|l|_|_|_|_|_<;>try rfl
 rcases l with _|⟨p,_|⟨q,_|⟨_,_⟩⟩⟩<;>try rfl
 .cases p<;>try rfl
  next y e=>cases y<;>rfl
 .rcases p with⟨y,e⟩|_|_|_|_|_|_|_|_|_<;>try rfl
  cases y<;>try rfl
  rcases q with⟨y,j⟩|_|_|_|_|_|_|_|_|_<;>try rfl
  cases y<;>try rfl
  rcases X with⟨_|u|_|_|_|_|_|_|_|_⟩|_|_|_|_|_|_<;>try rfl
  cases u<;>try rfl
  dsimp only
  unfold upC
  generalize hg:σ.h.get b=G
  rcases G with _|⟨c,_|⟨u,v⟩⟩<;>try rfl
  cases u<;>try rfl
  cases v<;>try rfl
  cases hQ:IZ .i64 e&&(IZ .i64 j&&Nat.ble c.length 1000)with
  |true=>simp only[hQ,cC];rfl
  |false=>simp only[hQ,fX]
 .rcases p with⟨y,e⟩|_|_|_|_|_|_|_|_|_<;>try rfl
  cases y<;>try rfl
  rcases q with⟨y,j⟩|_|_|_|_|_|_|_|_|_<;>try rfl
  cases y<;>rfl
section
variable {E:Env} (tm:Tr V) (σ:St) (K:V→St→Prop)
def ane:wpOp E .JU tm σ K=K (.c (.mp σ.aj)) ⟨hset σ.h σ.aj ⟨[],some (0,0)⟩,σ.aj+1⟩:=by unfold wpOp oO;simp only[vJ.kind,um,jM]
def aiR(m k:O):wpOp E (.lookup m k) tm σ K=Gi (match m.ev tm,k.ev tm with|.c (.mp b),.agg [.int .i64 e,.int .i64 j]=>lkC (σ.h b) e j|_,_=>none) λv=>K v σ:=by rw[iD _ _ _ _ (by rfl) λ_ _ h=>by cases h];rfl
def arX(m k x:O):wpOp E (.Tf m k x) tm σ K=match m.ev tm,k.ev tm,x.ev tm with
  |.c (.mp b),.agg [.int .i64 e,.int .i64 j],.c (.bool true)=>(match upC (σ.h b) e j with|some k=>K .und ⟨hset σ.h b k,σ.aj⟩|none=>False)
  |_,_,_=>False:=by
 unfold wpOp oO
 simp only[vJ.kind,aiQ]
 generalize m.ev tm=M
 generalize k.ev tm=Y
 generalize x.ev tm=X
 rcases M with⟨_|_|_|_|_|_|_|_|b|_⟩|_|_|_|_|_|_<;>try rfl
 rcases Y with _|l|_|_|_|_|_<;>try rfl
 rcases l with _|⟨p,_|⟨q,_|⟨_,_⟩⟩⟩<;>try rfl
 .cases p<;>try rfl
  next y e=>cases y<;>rfl
 .rcases p with⟨y,e⟩|_|_|_|_|_|_|_|_|_<;>try rfl
  cases y<;>try rfl
  rcases q with⟨y,j⟩|_|_|_|_|_|_|_|_|_<;>try rfl
  cases y<;>try rfl
  rcases X with⟨_|u|_|_|_|_|_|_|_|_⟩|_|_|_|_|_|_<;>try rfl
  cases u<;>try rfl
  dsimp only
  cases upC (σ.h b) e j<;>rfl
 .rcases p with⟨y,e⟩|_|_|_|_|_|_|_|_|_<;>try rfl
  cases y<;>try rfl
  rcases q with⟨y,j⟩|_|_|_|_|_|_|_|_|_<;>try rfl
  cases y<;>rfl
end
def Qd:List Ins.Lg->List B
 |[]=>[]
 |x::r=>.int .i64 x.e:: .int .i64 x.k::Qd r
def acJ:∀(l r:List Ins.Lg),Qd (l++r)=Qd l++Qd r
 |[],_=>rfl
 |x::l,r=>by show _::_::Qd (l++r)=_;rw[acJ l r];rfl
def aiS(l:List Ins.Lg)(x:Ins.Lg):Qd l++[.int .i64 x.e,.int .i64 x.k]=Qd (l++[x]):=by rw[acJ];rfl
def acK:∀l:List Ins.Lg,(Qd l).length=2*l.length
 |[]=>rfl
 |x::l=>by show(Qd l).length+1+1=_;rw[acK l,bO];omega
def X3(e j:Int):∀l:List Ins.Lg,hasB (Qd l) e j=Hz l ⟨e,j⟩
 |[]=>rfl
 |x::l=>by
  show(bif eqI x.e e&&eqI x.k j then true else hasB (Qd l) e j)=(x.e==e&&x.k==j||Hz l ⟨e,j⟩)
  rw[X3 e j l];have h1:eqI x.e e=(x.e==e):=by rw[Bool.eq_iff_iff,Tm,beq_iff_eq]
  have h2:eqI x.k j=(x.k==j):=by rw[Bool.eq_iff_iff,Tm,beq_iff_eq]
  rw[h1,h2];cases(x.e==e&&x.k==j)<;>rfl
def Ls{n:Nat}(h:n<=9223372036854775807):IZ .i64 (.ofNat n)=true:=fK h
def arY(l:List Ins.Lg)(a b:Nat)(ha:a<=9223372036854775807)(hb:b<=9223372036854775807)(hl:l.length<=500):upC (some ⟨Qd l,some (0,0)⟩) (.ofNat a) (.ofNat b)=some ⟨Qd (l++[⟨.ofNat a,.ofNat b⟩]),some (0,0)⟩:=by have h2:Nat.ble (Qd l).length 1000=true:=fK (by rw[acK];omega);show(bif IZ .i64 (.ofNat a)&&(IZ .i64 (.ofNat b)&&Nat.ble (Qd l).length 1000)then _ else none)=_;rw[Ls ha,Ls hb,h2,<-aiS];rfl
def arZ(l:List Ins.Lg)(a b:Nat)(ha:a<=9223372036854775807)(hb:b<=9223372036854775807):lkC (some ⟨Qd l,some (0,0)⟩) (.ofNat a) (.ofNat b)=some (.c (.bool (Hz l ⟨.ofNat a,.ofNat b⟩))):=by show(bif IZ .i64 (.ofNat a)&&IZ .i64 (.ofNat b)then some (V.c (.bool (hasB (Qd l) (.ofNat a) (.ofNat b))))else none)=_;rw[Ls ha,Ls hb,X3];rfl
attribute [go_sem] ane aiR arX arY arZ
structure VG(g:iw):Prop where
 l:∀d,d<g.d.length->∀k,k<(ix g.d d).l.length->∃e j:Nat,ix (ix g.d d).l k=⟨.ofNat e,.ofNat j⟩/\e<g.e.length/\j<(ix g.e e).c.length
 ne:g.e.length<=8
 nd:g.d.length<=16
 nc:∀i,i<g.e.length->(ix g.e i).c.length<=24
 nl:∀d,d<g.d.length->(ix g.d d).l.length<=8
def OL{g:iw}(h:NP g=0):VG g:=by
 unfold NP at h;split at h
 .cases h
 next h0=>
 split at h
 .next h1=>exact absurd h h1
 next h1=>
 split at h
 .next h2=>exact absurd h h2
 next h2=>
 have h1:FN (λi=>Hw (ix g.e i)) g.e.length=0:=br h1;refine⟨λd hd k hk=>?_,jb,jb,λi hi=>?_,λd hd=>?_⟩
 .have hD:=fU h d hd;unfold NM at hD;split at hD
  .cases hD
  split at hD
  .cases hD
  have hL:=fU hD k hk;unfold ZX at hL;dsimp only at hL;split at hL
  .cases hL
  next hr=>
  generalize ix (ix g.d d).l k=x at*;obtain⟨e,j⟩:=x;refine⟨e.toNat,j.toNat,?_,?_,?_⟩
  .have h1:Int.ofNat e.toNat=e:=eV (by dsimp only at hr;omega);have h2:Int.ofNat j.toNat=j:=eV (by dsimp only at hr;omega);rw[h1,h2]
  .dsimp only at hr;omega
  .dsimp only at hr;omega
 .have hE:=fU h1 i hi;unfold Hw at hE;split at hE
  .cases hE
  .omega
 .have hD:=fU h d hd;unfold NM at hD;split at hD
  .cases hD
  .omega
section
variable {p:Nat→Prop} {h:Tr Bk} {v:B}
def CP.at{l:List Ins.Lg}(hL:CP p h v l){i:Nat}(hi:i<l.length):∃b o c,v=.sl b o l.length c/\ld h b (o+i*2) 2 true=some (.agg [.int .i64 (ix l i).e,.int .i64 (ix l i).k])/\ld h b (o+i*2) 1 false=some (.c (.int .i64 (ix l i).e))/\ld h b (o+i*2+1) 1 false=some (.c (.int .i64 (ix l i).k)):=by obtain⟨b,o,c,e,-,hld⟩:=aZ.pos hL jb;have hld:=hld i hi;exact⟨b,o,c,e,hld,uS hld 0 1 false jj jj,uS hld 1 1 false jj jj⟩
end
end Go.Proofs.Xe
