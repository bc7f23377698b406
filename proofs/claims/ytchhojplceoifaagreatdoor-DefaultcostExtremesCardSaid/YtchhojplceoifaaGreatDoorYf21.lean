import Derived.Test.YtchhojplceoifaaGreatDoorYf20
set_option linter.all false
set_option maxRecDepth 100000
set_option maxHeartbeats 8000000
namespace Go.Proofs.Xe
open Go.RowKit Go.Proofs.Ins
def jK.lt{σ:St}(hW:WF σ){p:Nat->Prop}{v:B}{l:List qx}(hl:jK p σ.h v l):jK (Lt σ.aj) σ.h v l:=by obtain⟨L,h3,h4⟩:=hl;exact⟨L,h3.lt hW,λi hi=>(h4 i hi).lt hW⟩
theorem jK.fr{σ σ':St}(hW:WF σ)(hf:Fr σ σ'){p:Nat->Prop}{v:B}{l:List qx}(hl:jK p σ.h v l):jK (Lt σ.aj) σ'.h v l:=(hl.lt hW).keep hf.lt λ_ h=>h
def atm(dl:List qx)(i c:Int):Prop:=∀j,j<dl.length->∀t,t<(ix dl j).l.length->¬((ix (ix dl j).l t).e=i/\(ix (ix dl j).l t).k=c)
def aw8(dl:List qx):Prop:=dl.length<=1000/\∀j,j<dl.length->(ix dl j).l.length<=1000
def an5{σ:St}(hW:WF σ){p:Nat->Prop}{ev dv:B}(dl:List qx)(hD:jK p σ.h dv dl)(hl:aw8 dl)(h1:ev.kn=true)(i c:Int):
  aC EN 81 [.agg [ev,dv],.c (.int .i64 i),.c (.int .i64 c)] σ λr σ'=>(∃b,r=.c (.bool b)/\(b=false->atm dl i c))/\Fr σ σ':=by
 refine aO (GY.o _ _) GY.h ?_
 unfold GY
 dsimp only
 obtain⟨T,hT,hT2⟩:=hD
 have hlen:=hT.len
 have hkn:=hT.kn
 simp(disch:=try exact jz) only[go_sem,hkn,hlen,h1]
 refine aF (λq tm σ'=>∃j,q=dl.length-j/\j<=dl.length/\Tr.ah tm 1=.c (.int .i64 i)/\Tr.ah tm 2=.c (.int .i64 c)/\Tr.ah tm 12=.c dv/\Tr.ah tm 13=jN dl.length/\Tr.ah tm 14=jN j/\(∀j',j'<j->∀t,t<(ix dl j').l.length->¬((ix (ix dl j').l t).e=i/\(ix (ix dl j').l t).k=c))/\Fr σ σ') dl.length ?_ ?_
 .refine⟨0,jb,jb,?_⟩
  simp(disch:=try exact jz) only[go_sem,am]
  exact⟨λj' h=>jb,fr⟩
 .rintro q tm σ' ⟨j,rfl,hj,t1,t2,t12,t13,t14,hN,hf⟩
  have hle:=hf.le
  have hl0:=hl.1
  simp(disch:=try exact jz) only[go_sem,t1,t2,t12,t13,t14,aG]
  refine aH (λhlt=>?_) (λhlt=>?_)
  .obtain⟨b,o,cc,rfl,-,hld⟩:=hT.pos jb
   have hld:=hf.ld hW (hld j hlt)
   have hTj:=hT2 j hlt
   have hlj:=hl.2 j hlt
   generalize hag:ix dl j=ag at*
   have ajl:=hTj.len
   have azt:=hTj.kn
   simp(disch:=try exact jz) only[go_sem,t1,t2,t12,t13,t14,hld,azt,ajl]
   refine aF (λq tm σ3=>∃t,q=ag.l.length-t/\t<=ag.l.length/\Tr.ah tm 1=.c (.int .i64 i)/\Tr.ah tm 2=.c (.int .i64 c)/\Tr.ah tm 12=.c (.sl b o dl.length cc)/\Tr.ah tm 13=jN dl.length/\Tr.ah tm 14=jN j
    /\Tr.ah tm 19=.c (T j)/\Tr.ah tm 20=jN ag.l.length/\Tr.ah tm 21=jN t/\(∀t',t'<t->¬((ix ag.l t').e=i/\(ix ag.l t').k=c))/\Fr σ σ3) ag.l.length ?_ ?_
   .refine⟨0,jb,jb,?_⟩
    simp(disch:=try exact jz) only[go_sem,t1,t2,t12,t13,t14,am]
    exact⟨λt' h=>jb,fr⟩
   .rintro q tm3 σ3 ⟨t,rfl,ht,t1,t2,t12,t13,t14,t19,t20,t21,hM,hf3⟩
    have hle3:=hf3.le
    simp(disch:=try exact jz) only[go_sem,t1,t2,t12,t13,t14,t19,t20,t21,aG]
    refine aH (λhlt3=>?_) (λhlt3=>?_)
    .obtain⟨b3,o3,c3,e3,-,uT⟩:=hTj.pos jb
     have uT:=hf3.ld hW (uT t hlt3)
     unfold MH at uT
     rw[e3]at t19
     simp(disch:=try exact jz) only[go_sem,t1,t2,t12,t13,t14,t19,t20,t21,uT]
     refine IK (λhq=>?_) (λhq=>?_)
     .simp(disch:=try exact jz) only[go_sem,t1,t2,t12,t13,t14,t19,t20,t21,hq]
      refine aH (λhq2=>?_) (λhq2=>?_)
      .simp(disch:=try exact jz) only[go_sem,t1]
       exact⟨⟨_,rfl,λh=>by cases h⟩,fr⟩
      .simp(disch:=try exact jz) only[go_sem,t1,t2,t12,t13,t14,t19,t20,t21]
       exact⟨ag.l.length-(t+1),jb,t+1,rfl,jb,by rw[e3],rfl,λt' h'=>by
        by_cases e:t'=t
        .rw[e];exact λh=>hq2 h.2
        .exact hM t' jb,fr⟩
     .simp(disch:=try exact jz) only[go_sem,t1,t2,t12,t13,t14,t19,t20,t21,hq]
      exact⟨ag.l.length-(t+1),jb,t+1,rfl,jb,by rw[e3],rfl,λt' h'=>by
       by_cases e:t'=t
       .rw[e];exact λh=>hq h.1
       .exact hM t' jb,fr⟩
    .have:t=ag.l.length:=jb
     subst this
     simp(disch:=try exact jz) only[go_sem,t1,t2,t12,t13,t14]
     exact⟨dl.length-(j+1),jb,j+1,rfl,jb,rfl,λj' h'=>by
      by_cases e:j'=j
      .rw[e,hag];exact hM
      .exact hN j' jb,hf3⟩
  .have:j=dl.length:=jb
   subst this
   simp(disch:=try exact jz) only[go_sem,t1]
   exact⟨⟨_,rfl,λ_=>hN⟩,hf⟩
structure LI(σ σ':St)(ev dv:B)(d0 d1 d2:Nat)(w:Rat)(l:List Ins.Lg)(bl:Nat):Prop where
 q1:σ'.h σ.aj=some ⟨[ev,dv],none⟩
 q2:σ'.h (σ.aj+1)=some ⟨[.int .u16 (.ofNat d0),.int .u16 (.ofNat d1),.int .u16 (.ofNat d2)],none⟩
 b:σ'.h (σ.aj+1+1)=some ⟨[.bool (rn w),.str (rs w),.str (rd w),kC l bl],none⟩
 lb:0<l.length->σ'.h bl=some ⟨bC l.length (λk=>MH (ix l k)),some (2,135)⟩/\σ.aj+1+1+1<=bl/\bl<σ'.aj
 n:l.length<=4
 nx:σ.aj+1+1+1<=σ'.aj
 fr:Fr σ σ'
structure VB(el:List vP)(dl:List qx)(i j:Nat)(hv:Int)(l:List Ins.Lg):Prop where
 r:∀x∈l,∃e k:Nat,x=⟨.ofNat e,.ofNat k⟩/\e<el.length/\k<(ix el e).c.length/\atm dl (.ofNat e) (.ofNat k)/\holdL el x=hv/\(e<i\/e=i/\k<j)
 nd:l.Nodup
def LGf(el:List vP)(dl:List qx)(l:List Ins.Lg):Prop:=∃hv,VB el dl el.length 0 hv l
section
variable {el:List vP} {dl:List qx} {i j:Nat} {hv hv' : Int} {l:List Ins.Lg}
theorem VB.nil:VB el dl i j hv []:=⟨λx hx=>by simp at hx,List.nodup_nil⟩
def VB.next(h:VB el dl i j hv l):VB el dl i (j+1) hv l:=⟨λx hx=>by obtain⟨e,k,h1,h2,h3,h4,h5,h6⟩:=h.r x hx;exact⟨e,k,h1,h2,h3,h4,h5,jb⟩,h.nd⟩
def VB.row(h:VB el dl i j hv l):VB el dl (i+1) 0 hv l:=⟨λx hx=>by obtain⟨e,k,h1,h2,h3,h4,h5,h6⟩:=h.r x hx;exact⟨e,k,h1,h2,h3,h4,h5,jb⟩,h.nd⟩
def VB.push(h:VB el dl i j hv l)(hi:i<el.length){cl:List C5}(he:(ix el i).c=cl)(hj:j<cl.length)(hN:atm dl (.ofNat i) (.ofNat j))(hh:l=[]\/hv=hv')(hx:(ix cl j).h=hv'):VB el dl i (j+1) hv' (l++[⟨.ofNat i,.ofNat j⟩]):=by
 refine⟨λx hm=>?_,?_⟩
 .rcases ce.mp hm with hm|hm
  .obtain⟨e,k,h1,h2,h3,h4,h5,h6⟩:=h.r x hm;rcases hh with hh|hh
   .rw[hh]at hm;cases hm
   .exact⟨e,k,h1,h2,h3,h4,by rw[h5,hh],jb⟩
  .rw[dt]at hm;subst hm;refine⟨i,j,rfl,hi,by rw[he];exact hj,hN,?_,jb⟩;show(ix (ix el i).c j).h=_;rw[he];exact hx
 .rw[fS];refine⟨h.nd,(gP.mpr ⟨List.not_mem_nil,List.nodup_nil⟩),λa ha b hb e=>?_⟩;rw[dt]at hb;subst hb;obtain⟨e',k,h1,-,-,-,-,h6⟩:=h.r a ha;rw[e]at h1;have h7:=(Ins.Lg.mk.inj h1).1;have h8:=(Ins.Lg.mk.inj h1).2;have h7:=Int.ofNat.inj h7;have h8:=Int.ofNat.inj h8;omega
def VB.perm{l':List Ins.Lg}(h:VB el dl i j hv l)(hp:l'.Perm l):VB el dl i j hv l':=⟨λx hx=>h.r x (hp.mem_iff.mp hx),hp.nodup_iff.mpr h.nd⟩
def swap_perm{l:List Ins.Lg}{i j:Nat}(hi:i<l.length)(hj:j<l.length):((l.set i (ix l j)).set j (ix l i)).Perm l:=by rw[dU hi,dU hj];exact List.set_set_perm hi hj
end
section
variable {σ σ' : St} {ev dv:B} {d0 d1 d2:Nat} {w:Rat} {l:List Ins.Lg} {bl:Nat}
def LI.step(hL:LI σ σ' ev dv d0 d1 d2 w l bl){σ3:St}(hf:Fr σ' σ3):LI σ σ3 ev dv d0 d1 d2 w l bl:=by
 have hn:=hL.nx;have hle:=hf.le;refine⟨?_,?_,?_,λh0=>?_,hL.n,jb,hL.fr.trans hf⟩
 .rw[hf.old _ jb];exact hL.q1
 .rw[hf.old _ jb];exact hL.q2
 .rw[hf.old _ jb];exact hL.b
 .obtain⟨k1,k2,k3⟩:=hL.lb h0;exact⟨by rw[hf.old _ k3];exact k1,k2,jb⟩
def LI.push(hL:LI σ σ' ev dv d0 d1 d2 w l bl){nx n':Nat}{x:Ins.Lg}{h':Tr Bk}(hl:l.length<=3)(hb:h' (σ.aj+1+1)=some ⟨[.bool (rn w),.str (rs w),.str (rd w),.sl nx 0 (l.length+1) .opn],none⟩)
  (hx:h' nx=some ⟨bC l.length (λk=>MH (ix l k))++MH x,some (2,135)⟩) (ho:∀b,b<σ.aj+1+1->h' b=σ'.h b) (hn:σ'.aj<=nx) (hn':nx<n') (hf:Fr σ ⟨h',n'⟩):LI σ ⟨h',n'⟩ ev dv d0 d1 d2 w (l++[x]) nx:=by
 have hn1:=hL.nx
 refine⟨by rw[ho _ jb];exact hL.q1,by rw[ho _ jb];exact hL.q2,?_,λ_=>⟨?_,jb,hn'⟩,by simp;omega,by show _<=n';omega,hf⟩
 .rw[iY kc,aD];exact hb
 .rw[aD,bZ]
  show h' nx=_
  rw[hx,jw]
  congr 2
  refine bH λk hk=>?_
  unfold iR
  split
  .next e=>rw[e,gX]
  .rw[gW _ _ jb]
def LI.set(hL:LI σ σ' ev dv d0 d1 d2 w l bl){h':Tr Bk}{l':List Ins.Lg}(h0:0<l.length)(hl:l'.length=l.length)(hb:h' bl=some ⟨bC l.length (λk=>MH (ix l' k)),some (2,135)⟩)(ho:∀b,b≠bl->h' b=σ'.h b)(hf:Fr σ ⟨h',σ'.aj⟩):LI σ ⟨h',σ'.aj⟩ ev dv d0 d1 d2 w l' bl:=by have hn1:=hL.nx;obtain⟨k1,k2,k3⟩:=hL.lb h0;refine⟨by rw[ho _ jb];exact hL.q1,by rw[ho _ jb];exact hL.q2,?_,λ_=>⟨by rw[hl];exact hb,k2,k3⟩,by rw[hl];exact hL.n,hL.nx,hf⟩;rw[ho _ jb,hL.b];unfold kC;rw[hl]
def atn(l:List Ins.Lg):l.length*2<=(bC l.length (λk=>MH (ix l k))).length:=by rw[qB (e:=2) λ_=>rfl];exact jp
def an6(l:List Ins.Lg):(bC l.length (λk=>MH (ix l k))).take (l.length*2)=bC l.length (λk=>MH (ix l k)):=jC λ_=>rfl
def aqs{n i:Nat}(l:List Ins.Lg)(hn:l.length=n)(y:Ins.Lg)(hi:i<n):yS (bC n λk=>MH (ix l k)) (i*2) [.int .i64 y.e,.int .i64 y.k]=some (bC n λk=>MH (ix (l.set i y) k)):=by
 have:=yt (e:=2) (k:=0) (vs:=MH y) (G:=λk=>MH (ix l k)) (λ_=>rfl) hi (by exact cP 2);rw[cB]at this;show yS _ _ (MH y)=_;rw[this];show some _=some _;congr 1;refine bH λk hk=>?_;unfold iR;rw[show ix (l.set i y) k=if k=i then y else ix l k by
  unfold ix;rw[cG,cG,List.getElem?_set];by_cases e:k=i
  .subst e;rw[ae rfl,ae rfl,ae jb];rfl
  .rw[ab e,ab (Ne.symm e)]]
 split<;>rfl
def aqt{n i:Nat}(l:List Ins.Lg)(hi:i<n):zW (bC n λk=>MH (ix l k)) (i*2) 2 true=some (.agg [.int .i64 (ix l i).e,.int .i64 (ix l i).k]):=by have:=Ad (e:=2) (k:=0) (m:=2) (G:=λk=>MH (ix l k)) true (λ_=>rfl) hi jj jj;rw[cB]at this;rw[this];rfl
end
def DT.at{p:Nat->Prop}{h:Tr Bk}{v:B}{el:List vP}(hE:DT p h v el){i:Nat}(hi:i<el.length):∃b o c,v=.sl b o el.length c/\∃C A:B,ld h b (o+i*5) 5 true=some (.agg [.bool (ix el i).m.n,.str (ix el i).m.s,.str (ix el i).m.d,C,A])/\ld h b (o+i*5+3) 1 false=some (.c C)/\oN p h C (ix el i).c/\iG p h A (ix el i).a:=by obtain⟨C,A,h1,h2⟩:=hE;obtain⟨b,o,c,e,-,hld⟩:=h1.pos jb;refine⟨b,o,c,e,C i,A i,hld i hi,?_,h2 i hi⟩;rw[yu (hld i hi) 3 1 false jj jj];unfold zW;have:=(h2 i hi).1.kn;simp[this]
def DT.len{p:Nat->Prop}{h:Tr Bk}{v:B}{l:List vP}(hl:DT p h v l):lenV (.c v)=some (jN l.length):=hl.choose_spec.choose_spec.1.len
def jK.el{p:Nat->Prop}{h:Tr Bk}{v:B}{dl:List qx}(hD:jK p h v dl){i:Nat}(hi:i<dl.length):∃b o c,v=.sl b o dl.length c/\∃T:B,ld h b (o+i*4) 4 true=some (.agg [.bool (ix dl i).w.n,.str (ix dl i).w.s,.str (ix dl i).w.d,T])/\AU p h T (ix dl i).l:=by obtain⟨L,h1,h2⟩:=hD;obtain⟨b,o,c,e,-,hld⟩:=h1.pos jb;exact⟨b,o,c,e,L i,hld i hi,h2 i hi⟩
def jK.len{p:Nat->Prop}{h:Tr Bk}{v:B}{dl:List qx}(hD:jK p h v dl):lenV (.c v)=some (jN dl.length):=hD.choose_spec.1.len
def aw9:oL .sub (jN 0) (jN 1)=some (.c (.int .i64 (.negSucc 0))):=rfl
def azu:decide (Int.ofNat 0<Int.negSucc 0)=false:=rfl
def an7{σ σ':St}{ev dv:B}{d0 d1 d2:Nat}{w:Rat}{l:List Ins.Lg}{bl:Nat}{dl:List qx}(hW:WF σ){p:Nat->Prop}{T:Nat->B}(hT2:∀j,j<dl.length->AU p σ.h (T j) (ix dl j).l)(hT1:aX p σ.h 4 dv dl.length (λi=>[.bool (ix dl i).w.n,.str (ix dl i).w.s,.str (ix dl i).w.d,T i]))(hL:LI σ σ' ev dv d0 d1 d2 w l bl){el:List vP}(hG:LGf el dl l)
  {h':Tr Bk}{n' rb:Nat}(hr:h' rb=some ⟨bC (dl.length+1) (λj=>if j<dl.length then [.bool (ix dl j).w.n,.str (ix dl j).w.s,.str (ix dl j).w.d,T j]else [.bool (rn w),.str (rs w),.str (rd w),kC l bl]),some (4,132)⟩) (ho:∀b,b<σ'.aj->h' b=σ'.h b) (hrb:σ'.aj<=rb) (hn:rb<n') (hf:Fr σ ⟨h',n'⟩):
  (∃rv d,V.c (.sl rb 0 (dl.length+1) .opn)=.c rv/\jK (λb=>p b\/σ.aj<=b/\b<n') h' rv (dl++[d])/\d.l.length<=4/\d.w=mP w/\LGf el dl d.l)/\Fr σ ⟨h',n'⟩:=by
 have hle:=hL.fr.le
 have hn1:=hL.nx
 refine⟨⟨_,⟨mP w,l⟩,rfl,⟨λj=>if j<dl.length then T j else kC l bl,?_,λj hj=>?_⟩,hL.n,rfl,hG⟩,hf⟩
 .have:(dl++[(⟨mP w,l⟩:qx)]).length=dl.length+1:=by simp
  rw[this]
  have Rl:∀j,j<dl.length->(T j).kn=true:=λj hj=>(hT2 j hj).kn
  refine(bD (p:=λb=>p b\/σ.aj<=b/\b<n') _ hr rfl (.inr ⟨jb,hn⟩) (λj=>?_) jj λj hj=>?_).congr λj hj=>?_
  .split<;>rfl
  .split
   .next e=>simp only[cD,dj,Rl j e,vk,Ac,cU]
   .simp only[cD,dj,qC,vk,Ac,cU]
  .dsimp only
   split
   .next e=>rw[gW _ _ e]
   .next e=>
    obtain rfl:j=dl.length:=jb
    rw[gX];rfl
 .have hj':j<dl.length+1:=by simpa using hj
  dsimp only
  by_cases e:j<dl.length
  .rw[ae e,gW _ _ e]
   refine(aX.plt hW (hT2 j e)).keep (λb hb=>?_) λb hb=>.inl hb.1
   rw[ho b jb,hL.fr.old b hb.2]
  .rw[ab e]
   obtain rfl:j=dl.length:=jb
   rw[gX]
   by_cases h0:l.length=0
   .exact .inl ⟨h0,by unfold kC;rw[ae h0]⟩
   .obtain⟨k1,k2,k3⟩:=hL.lb jb
    rw[iY jb]
    exact bD (p:=λb=>p b\/σ.aj<=b/\b<n') _ (by rw[ho _ k3];exact k1) rfl (.inr ⟨jb,jb⟩) (λ_=>rfl) jj λ_ _=>rfl
def axa{σ:St}(hW:WF σ){p p':Nat->Prop}{ev dv:B}(el:List vP)(dl:List qx)(hE:DT p' σ.h ev el)(hD:jK p σ.h dv dl)(hl:aw8 dl)(hel:el.length<=1000)(hcl:∀i,i<el.length->(ix el i).c.length<=1000)
  (d0 d1 d2:Nat) (b0:d0<=65535) (b1:d1<=65535) (b2:d2<=65535):
  aC EN 40 [.agg [ev,dv],.agg [.int .u16 (.ofNat d0),.int .u16 (.ofNat d1),.int .u16 (.ofNat d2)]] σ λr σ'=>(∃rv d,r=.c rv/\jK (λb=>p b\/σ.aj<=b/\b<σ'.aj) σ'.h rv (dl++[d])/\d.l.length<=4/\d.w=mP (amt d2)/\LGf el dl d.l)/\Fr σ σ':=by
 refine aO (OX.o _ _) OX.h ?_
 unfold OX
 dsimp only
 have hek:=hE.kn
 have hdk:=hD.kn
 have hlenE:=hE.len
 simp(disch:=try exact jz) only[go_sem,hek,hdk,hlenE]
 refine bM.mono (Q:=λe tm σ'=>e=.exit 0/\∃l bl,Tr.ah tm 2=.c (.ptr σ.aj 0)/\Tr.ah tm 3=.c (.ptr (σ.aj+1) 0)/\Tr.ah tm 5=.c (.ptr (σ.aj+1+1) 0)/\LGf el dl l/\LI σ σ' ev dv d0 d1 d2 (amt d2) l bl)
  (aF (λq tm σ'=>∃i k hv l bl,q=el.length-i/\i<=el.length/\k<=i*1000/\Tr.ah tm 2=.c (.ptr σ.aj 0)/\Tr.ah tm 3=.c (.ptr (σ.aj+1) 0)/\Tr.ah tm 5=.c (.ptr (σ.aj+1+1) 0)/\Tr.ah tm 6=jN k/\Tr.ah tm 7=.c (.int .i64 hv)/\Tr.ah tm 20=jN el.length/\Tr.ah tm 21=jN i
   /\VB el dl i 0 hv l/\LI σ σ' ev dv d0 d1 d2 (amt d2) l bl) el.length ?_ ?_) ?_
 .refine⟨0,0,0,[],0,jb,jb,jb,?_⟩
  simp(disch:=try exact jz) only[go_sem,am]
  refine⟨rfl,VB.nil,?_,?_,?_,λh=>by simp at h,br _,jp,?_⟩
  .simp(disch:=omega) only[ak,aA]
  .simp(disch:=omega) only[ak,aA]
  .rw[aA];rfl
  .exact fr
 .rintro q tm σ' ⟨i,k,hv,l,bl,rfl,hi,hk,t2,t3,t5,t6,t7,t20,t21,hG,hL⟩
  simp(disch:=try exact jz) only[go_sem,t2,t3,t5,t6,t7,t20,t21,aG]
  refine aH (λhlt=>?_) (λhlt=>?_)
  .obtain⟨b,o,c,rfl,C,A,afL,uT,hC,-⟩:=hE.at hlt
   have uT:=hL.fr.ld hW uT
   have azv:=hcl i hlt
   generalize hei:(ix el i).c=cl at*
   have I5:=hC.len
   have aA4:=hC.kn
   have q1:=hL.q1
   have q2:=hL.q2
   simp(disch:=try exact jz) only[go_sem,t2,t3,t5,t6,t7,t20,t21,au q1,hek,hdk,uT,I5]
   refine aF (λq tm σ3=>∃j k hv l bl,q=cl.length-j/\j<=cl.length/\k<=i*1000+j/\Tr.ah tm 2=.c (.ptr σ.aj 0)/\Tr.ah tm 3=.c (.ptr (σ.aj+1) 0)/\Tr.ah tm 5=.c (.ptr (σ.aj+1+1) 0)/\Tr.ah tm 6=jN k/\Tr.ah tm 7=.c (.int .i64 hv)/\Tr.ah tm 8=jN i/\Tr.ah tm 20=jN el.length/\Tr.ah tm 21=jN i
    /\Tr.ah tm 29=.c C/\Tr.ah tm 30=jN cl.length/\Tr.ah tm 31=jN j/\VB el dl i j hv l/\LI σ σ3 (.sl b o el.length c) dv d0 d1 d2 (amt d2) l bl) cl.length ?_ ?_
   .refine⟨0,k,hv,l,bl,jb,jb,jb,?_⟩
    simp(disch:=try exact jz) only[go_sem,t2,t3,t5,t6,t7,t20,t21,am]
    exact⟨hG,hL⟩
   .rintro q tm3 σ3 ⟨j,k3,hv3,l3,bl3,rfl,hj,hk3,t2,t3,t5,t6,t7,t8,t20,t21,t29,t30,t31,hG3,hL3⟩
    simp(disch:=try exact jz) only[go_sem,t2,t3,t5,t6,t7,t8,t20,t21,t29,t30,t31,aG]
    refine aH (λhlt3=>?_) (λhlt3=>?_)
    .obtain⟨b5,o5,c5,e5,-,bf⟩:=hC.pos jb
     have bf:=hL3.fr.ld hW (bf j hlt3)
     unfold Xb at bf
     have q1:=hL3.q1
     have q2:=hL3.q2
     have hn3:=hL3.nx
     have hle3:=hL3.fr.le
     rw[e5]at t29
     simp(disch:=try exact jz) only[go_sem,t2,t3,t5,t6,t7,t8,t20,t21,t29,t30,t31,bf,au q1,hek,hdk]
     refine aC.st (Fr σ3) (by have hF:=Fr.refl hL3.fr.wf;exact fr) λhF3=>?_
     refine(an5 hF3.wf dl ((hD.fr hW hL3.fr).fr hL3.fr.wf hF3) hl hek (.ofNat i) (.ofNat j)).mono ?_
     rintro _ σ4 ⟨⟨fb,rfl,hNT⟩,hf4⟩
     have jr:=hF3.trans hf4
     have hL4:=hL3.step jr
     have pY:=jr.le
     have hn4:=hL4.nx
     have b4:=hL4.b
     have q2:=hL4.q2
     have hll:=hL4.n
     have adg:=Ee l3 bl3
     have Yx:=qC l3 bl3
     have htb:σ4.h σ3.aj=some ⟨[.int .i64 (ix cl j).h,.int .i64 (ix cl j).r,.bool (ix cl j).a.n,.str (ix cl j).a.s,.str (ix cl j).a.d],none⟩:=hf4.get hF3.wf (aA _ _ _)
     have hr0:=xA d0 (2^min (k3%16) 64) 9223372036854775807 jb
     have hk5:k3<=2000000:=by have:=bp 1000 (show i<=1000 by omega);omega
     have aA5:k3%16<16:=di _ jj
     cases fb
     .simp(disch:=try exact jz) only[go_sem,t2,t3,t5,t6,t7,t8,t20,t21,t30,t31,au b4,adg,Yx]
      refine aH (λhl4=>?_) (λhl4=>?_)
      .simp(disch:=try exact jz) only[go_sem,t2,t3,t5,t6,t7,t8,t20,t21,t30,t31]
       exact⟨cl.length-(j+1),jb,j+1,k3,hv3,l3,bl3,rfl,jb,jb,rfl,rfl,by rw[e5];exact t29,rfl,hG3.next,hL4⟩
      .simp(disch:=try exact jz) only[go_sem,t2,t3,t5,t6,t7,t8,t20,t21,t30,t31,au q2]
       have aA6:=hL4.fr
       have hl5:l3.length<=3:=by have h9:¬((4:Nat):Int)<=(l3.length:Int):=hl4;omega
       have aAG:σ3.aj<=σ4.aj:=jr.le
       refine IK (λhw=>?_) (λhw=>?_)
       .by_cases hz:l3.length=0
        .have he:kC l3 bl3=.aP:=by unfold kC;rw[ae hz]
         simp(disch:=try exact jz) only[go_sem,t2,t3,t5,t6,t7,t8,t20,t21,t30,t31,hw,au b4,b4,he,au htb]
         refine⟨cl.length-(j+1),jb,j+1,k3+1,_,l3++[⟨.ofNat i,.ofNat j⟩],_,rfl,jb,jb,rfl,rfl,by rw[e5];exact t29,rfl,hG3.push hlt hei hlt3 (hNT rfl) (.inl (ff hz)) rfl,LI.push (nx:=σ4.aj+1) hL4 jb ?_ ?_ ?_ ?_ ?_ ?_⟩
         .rw[aA,hz]
         .rw[ak _ _ _ _ jb,aA,hz];rfl
         .intro b9 h9;simp(disch:=omega) only[ak]
         .omega
         .omega
         .exact fr
        .have he:=iY (l:=l3) jb bl3
         obtain⟨k1,k2,k9⟩:=hL4.lb jb
         have hpl:=atn l3
         have hpt:=an6 l3
         have hz2:¬(0=l3.length):=jb
         simp(disch:=try exact jz) only[go_sem,t2,t3,t5,t6,t7,t8,t20,t21,t30,t31,hw,au b4,b4,he,au htb,hz,k1,hpt]
         refine aH (λhh=>?_) (λhh=>?_)
         .simp(disch:=try exact jz) only[go_sem,t2,t3,t5,t6,t7,t8,t20,t21,t30,t31,hw,au b4,b4,he,au htb,hz,k1,hpt]
          refine⟨cl.length-(j+1),jb,j+1,k3+1,_,l3++[⟨.ofNat i,.ofNat j⟩],_,rfl,jb,jb,rfl,rfl,by rw[e5];exact t29,rfl,hG3.push hlt hei hlt3 (hNT rfl) (.inr (by first|exact hh|exact hh.symm)) rfl,LI.push (nx:=σ4.aj+1) hL4 jb ?_ ?_ ?_ ?_ ?_ ?_⟩
          .rw[aA]
          .rw[ak _ _ _ _ jb,aA];rfl
          .intro b9 h9;simp(disch:=omega) only[ak,eX]
          .omega
          .omega
          .exact fr
         .simp(disch:=try exact jz) only[go_sem,t2,t3,t5,t6,t7,t8,t20,t21,t30,t31,hw]
          exact⟨cl.length-(j+1),jb,j+1,k3+1,hv3,l3,bl3,rfl,jb,jb,rfl,rfl,by rw[e5];exact t29,rfl,hG3.next,hL4⟩
       .simp(disch:=try exact jz) only[go_sem,t2,t3,t5,t6,t7,t8,t20,t21,t30,t31,hw]
        exact⟨cl.length-(j+1),jb,j+1,k3+1,hv3,l3,bl3,rfl,jb,jb,rfl,rfl,by rw[e5];exact t29,rfl,hG3.next,hL4⟩
     .simp(disch:=try exact jz) only[go_sem,t2,t3,t5,t6,t7,t8,t20,t21,t30,t31]
      exact⟨cl.length-(j+1),jb,j+1,k3,hv3,l3,bl3,rfl,jb,jb,rfl,rfl,by rw[e5];exact t29,rfl,hG3.next,hL4⟩
    .have:j=cl.length:=jb
     subst this
     simp(disch:=try exact jz) only[go_sem,t2,t3,t5,t6,t7,t8,t20,t21,t29,t30,t31]
     exact⟨el.length-(i+1),jb,i+1,k3,hv3,l3,bl3,rfl,jb,jb,rfl,rfl,rfl,hG3.row,hL3⟩
  .have hie:i=el.length:=jb
   simp(disch:=try exact jz) only[go_sem,am]
   exact⟨l,bl,t2,t3,t5,⟨hv,hie▸hG⟩,hL⟩
 .rintro _ tm σ' ⟨rfl,l,bl,t2,t3,t5,⟨hvf,hG⟩,hL⟩
  show bM EN (.seq _ _) _ _ _
  refine ade (λtm σ3=>∃l bl,Tr.ah tm 2=.c (.ptr σ.aj 0)/\Tr.ah tm 5=.c (.ptr (σ.aj+1+1) 0)/\LGf el dl l/\LI σ σ3 ev dv d0 d1 d2 (amt d2) l bl) ?_ ?_
  .have q2:=hL.q2
   have hF:=hL.fr
   have b5:=hL.b
   have hn:=hL.n
   have adg:=Ee l bl
   have Yx:=qC l bl
   simp(disch:=try exact jz) only[go_sem,t2,t3,t5,au q2]
   refine aH (λhr=>?_) (λhr=>?_)
   .by_cases hz:l.length=0
    .simp(disch:=try exact jz) only[go_sem,t2,t3,t5,au b5,adg,Yx,hz,aw9]
     refine aF (λq tm σ3=>q=0/\σ3=σ'/\Tr.ah tm 2=.c (.ptr σ.aj 0)/\Tr.ah tm 5=.c (.ptr (σ.aj+1+1) 0)/\Tr.ah tm 12=jN 0/\Tr.ah tm 13=.c (.int .i64 (.negSucc 0))) 0 ?_ ?_
     .simp(disch:=try exact jz) only[go_sem,am]
      exact⟨t2,t5⟩
     .rintro q tm σ3 ⟨rfl,rfl,t2,t5,t12,t13⟩
      simp(disch:=try exact jz) only[go_sem,t2,t5,t12,t13,azu,am]
      exact⟨l,bl,⟨hvf,hG⟩,hL⟩
    .have h11:1<=l.length:=jb
     simp(disch:=try exact jz) only[go_sem,t2,t3,t5,au b5,adg,Yx]
     refine aF (λq tm σ3=>∃i j l3,q=l.length-i/\i<=l.length/\j<l.length/\l3.length=l.length/\Tr.ah tm 2=.c (.ptr σ.aj 0)/\Tr.ah tm 5=.c (.ptr (σ.aj+1+1) 0)/\Tr.ah tm 12=jN i/\Tr.ah tm 13=jN j/\VB el dl el.length 0 hvf l3/\LI σ σ3 ev dv d0 d1 d2 (amt d2) l3 bl) l.length ?_ ?_
     .refine⟨0,l.length-1,l,jb,jb,jb,rfl,?_⟩
      simp(disch:=try exact jz) only[go_sem,t2,t5,am]
      exact⟨hG,hL⟩
     .rintro q tm σ3 ⟨i,j,l3,rfl,hi,hj,hl3,t2,t5,t12,t13,hG3,hL3⟩
      simp(disch:=try exact jz) only[go_sem,t2,t5,t12,t13,aG]
      refine aH (λhij=>?_) (λhij=>?_)
      .have b5:=hL3.b
       have he:=iY (l:=l3) jb bl
       rw[he]at b5
       obtain⟨k1,k2,k9⟩:=hL3.lb jb
       have hn3:=hL3.nx
       have hF3:=hL3.fr
       have hle:=hF3.le
       rw[hl3]at b5 k1
       have r1:=aqt (n:=l.length) (i:=i) l3 jb
       have r2:=aqt (n:=l.length) (i:=j) l3 hj
       have w1:=aqs (n:=l.length) (i:=i) l3 hl3 (ix l3 j) jb
       have w2:=aqs (n:=l.length) (i:=j) (l3.set i (ix l3 j)) (by simp[hl3]) (ix l3 i) hj
       simp(disch:=try exact jz) only[go_sem,t2,t5,t12,t13,au b5,au k1,aI k1,r1,r2,w1,w2]
       refine⟨l.length-(i+1),jb,i+1,j-1,(l3.set i (ix l3 j)).set j (ix l3 i),rfl,jb,jb,by simp[hl3],rfl,rfl,hG3.perm (swap_perm jb jb),hL3.set jb kc ?_ ?_ ?_⟩
       .rw[aA,hl3]
       .intro b9 h9
        rw[ak _ _ _ _ h9,ak _ _ _ _ h9]
       .exact fr
      .simp(disch:=try exact jz) only[go_sem,t2,t5,t12,t13,am]
       exact⟨l3,bl,⟨hvf,hG3⟩,hL3⟩
   .simp(disch:=try exact jz) only[go_sem,am]
    exact⟨l,bl,t2,t5,⟨hvf,hG⟩,hL⟩
  .rintro tm σ3 ⟨l,bl,t2,t5,hG,hL⟩
   have hF:=hL.fr
   have hle:=hL.fr.le
   have hn:=hL.nx
   have b5:=hL.b
   have q1:=hL.q1
   have Yx:=qC l bl
   obtain⟨T,hT1,hT2⟩:=hD
   have hdl:=hl.1
   have hfin:=λ(h':Tr Bk) (n' rb:Nat)=>an7 (h':=h') (n':=n') (rb:=rb) hW hT2 hT1 hL hG
   by_cases h0:dl.length=0
   .have hA0:dv=.aP\/∃b o c,dv=.sl b o 0 c:=by
     rcases hT1 with⟨-,e⟩|⟨b,o,c,e,-⟩
     .exact .inl e
     .exact .inr ⟨b,o,c,by rw[e,h0]⟩
    have hend:∀h':Tr Bk,h'=hset (hset σ3.h σ3.aj ⟨[.bool (rn (amt d2)),.str (rs (amt d2)),.str (rd (amt d2)),kC l bl],none⟩) (σ3.aj+1) ⟨[.bool (rn (amt d2)),.str (rs (amt d2)),.str (rd (amt d2)),kC l bl],some (4,132)⟩->(∃rv d,V.c (.sl (σ3.aj+1) 0 1 .opn)=.c rv/\jK (λb=>p b\/σ.aj<=b/\b<σ3.aj+1+1) h' rv (dl++[d])/\d.l.length<=4/\d.w=mP (amt d2)/\LGf el dl d.l)/\Fr σ ⟨h',σ3.aj+1+1⟩:=λh' e=>by subst e;have:=hfin (hset (hset σ3.h σ3.aj ⟨[.bool (rn (amt d2)),.str (rs (amt d2)),.str (rd (amt d2)),kC l bl],none⟩) (σ3.aj+1) ⟨[.bool (rn (amt d2)),.str (rs (amt d2)),.str (rd (amt d2)),kC l bl],some (4,132)⟩) (σ3.aj+1+1) (σ3.aj+1) (by rw[aA,h0];rfl) (λb9 h9=>by simp(disch:=omega) only[ak]) jb jb (fr);rw[h0]at this;exact this
    rcases hA0 with rfl|⟨b,o,c,rfl⟩
    .simp(disch:=try exact jz) only[go_sem,t2,t5,au q1,au b5,hek,Yx]
     exact hend _ rfl
    .simp(disch:=try exact jz) only[go_sem,t2,t5,au q1,au b5,hek,Yx]
     exact hend _ rfl
   .obtain⟨b,o,c,rfl,-,hld⟩:=hT1.pos jb
    have hbl:=hW.dA (hld 0 jb)
    obtain⟨kk,e1,e2,e3,e4,e5⟩:=Ti jb λi hi=>hF.ld hW (hld i hi)
    have hct:=jC (e:=4) (n:=dl.length) (G:=λi=>[B.bool (ix dl i).w.n,.str (ix dl i).w.s,.str (ix dl i).w.d,T i]) λ_=>rfl
    have hcn:dl.length*4<=(bC dl.length λi=>[B.bool (ix dl i).w.n,.str (ix dl i).w.s,.str (ix dl i).w.d,T i]).length:=by rw[e4];exact jp
    simp(disch:=try exact jz) only[go_sem,t2,t5,au q1,au b5,hek,Yx,e1,e3,e4,e5,e2,hct]
    refine hfin _ _ _ ?_ ?_ jb jb ?_
    .rw[aA,jw]
     congr 2
     refine bH λj hj=>?_
     unfold iR
     by_cases e:j=dl.length
     .rw[ae e,ab jb]
     .rw[ab e,ae jb]
    .intro b9 h9
     simp(disch:=omega) only[ak,eX]
    .exact fr
end Go.Proofs.Xe
