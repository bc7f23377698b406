import Derived.Test.YtchhojplceoifaaGreatDoorYd20
set_option linter.all false
set_option maxRecDepth 100000
set_option maxHeartbeats 8000000
namespace Go.Proofs.Xe
open Go.RowKit Go.Proofs.Ins
def jL.lt{σ:St}(hW:WF σ){p:Nat->Prop}{v:B}{l:List qj}(hl:jL p σ.h v l):jL (Lt σ.aj) σ.h v l:=by obtain⟨L,h3,h4⟩:=hl;exact⟨L,h3.lt hW,λi hi=>(h4 i hi).lt hW⟩
theorem jL.fr{σ σ':St}(hW:WF σ)(hf:Fr σ σ'){p:Nat->Prop}{v:B}{l:List qj}(hl:jL p σ.h v l):jL (Lt σ.aj) σ'.h v l:=(hl.lt hW).keep hf.lt λ_ h=>h
def atb(dl:List qj)(i c:Int):Prop:=∀j,j<dl.length->∀t,t<(ix dl j).l.length->¬((ix (ix dl j).l t).e=i/\(ix (ix dl j).l t).k=c)
def awV(dl:List qj):Prop:=dl.length<=1000/\∀j,j<dl.length->(ix dl j).l.length<=1000
def anZ{σ:St}(hW:WF σ){p:Nat->Prop}{ev dv:B}(dl:List qj)(hD:jL p σ.h dv dl)(hl:awV dl)(h1:ev.kn=true)(i c:Int):
  aC EN 81 [.agg [ev,dv],.c (.int .i64 i),.c (.int .i64 c)] σ λr σ'=>(∃b,r=.c (.bool b)/\(b=false->atb dl i c))/\Fr σ σ':=by
 refine aP (Gz.o _ _) Gz.h ?_
 unfold Gz
 dsimp only
 obtain⟨T,hT,hT2⟩:=hD
 have hlen:=hT.len
 have hkn:=hT.kn
 simp(disch:=try exact jz) only[go_sem,z3,hkn,hlen,h1]
 refine aF (λq tm σ'=>∃j,q=dl.length-j/\j<=dl.length/\Tr.ah tm 1=.c (.int .i64 i)/\Tr.ah tm 2=.c (.int .i64 c)/\Tr.ah tm 12=.c dv/\Tr.ah tm 13=.c (.int .i64 (.ofNat dl.length))/\Tr.ah tm 14=.c (.int .i64 (.ofNat j))/\(∀j',j'<j->∀t,t<(ix dl j').l.length->¬((ix (ix dl j').l t).e=i/\(ix (ix dl j').l t).k=c))/\Fr σ σ') dl.length ?_ ?_
 .refine⟨0,jb,jb,?_⟩
  simp(disch:=try exact jz) only[go_sem,z3,am]
  exact⟨λj' h=>jb,fr⟩
 .rintro q tm σ' ⟨j,rfl,hj,t1,t2,t12,t13,t14,hN,hf⟩
  have hle:=hf.le
  have hl0:=hl.1
  simp(disch:=try exact jz) only[go_sem,z3,t1,t2,t12,t13,t14,aG]
  refine aH (λhlt=>?_) (λhlt=>?_)
  .obtain⟨b,o,cc,rfl,-,hld⟩:=hT.pos jb
   have hld:=hf.ld hW (hld j hlt)
   have hTj:=hT2 j hlt
   have hlj:=hl.2 j hlt
   generalize hag:ix dl j=ag at*
   have aja:=hTj.len
   have azg:=hTj.kn
   simp(disch:=try exact jz) only[go_sem,z3,t1,t2,t12,t13,t14,hld,azg,aja]
   refine aF (λq tm σ3=>∃t,q=ag.l.length-t/\t<=ag.l.length/\Tr.ah tm 1=.c (.int .i64 i)/\Tr.ah tm 2=.c (.int .i64 c)/\Tr.ah tm 12=.c (.sl b o dl.length cc)/\Tr.ah tm 13=.c (.int .i64 (.ofNat dl.length))/\Tr.ah tm 14=.c (.int .i64 (.ofNat j))
    /\Tr.ah tm 19=.c (T j)/\Tr.ah tm 20=.c (.int .i64 (.ofNat ag.l.length))/\Tr.ah tm 21=.c (.int .i64 (.ofNat t))/\(∀t',t'<t->¬((ix ag.l t').e=i/\(ix ag.l t').k=c))/\Fr σ σ3) ag.l.length ?_ ?_
   .refine⟨0,jb,jb,?_⟩
    simp(disch:=try exact jz) only[go_sem,z3,t1,t2,t12,t13,t14,am]
    exact⟨λt' h=>jb,fr⟩
   .rintro q tm3 σ3 ⟨t,rfl,ht,t1,t2,t12,t13,t14,t19,t20,t21,hM,hf3⟩
    have hle3:=hf3.le
    simp(disch:=try exact jz) only[go_sem,z3,t1,t2,t12,t13,t14,t19,t20,t21,aG]
    refine aH (λhlt3=>?_) (λhlt3=>?_)
    .obtain⟨b3,o3,c3,e3,-,uP⟩:=hTj.pos jb
     have uP:=hf3.ld hW (uP t hlt3)
     unfold MJ at uP
     rw[e3]at t19
     simp(disch:=try exact jz) only[go_sem,z3,t1,t2,t12,t13,t14,t19,t20,t21,uP]
     refine MG (λhq=>?_) (λhq=>?_)
     .simp(disch:=try exact jz) only[go_sem,z3,t1,t2,t12,t13,t14,t19,t20,t21,hq]
      refine aH (λhq2=>?_) (λhq2=>?_)
      .simp(disch:=try exact jz) only[go_sem,z3,t1]
       exact⟨⟨_,rfl,λh=>by cases h⟩,fr⟩
      .simp(disch:=try exact jz) only[go_sem,z3,t1,t2,t12,t13,t14,t19,t20,t21]
       exact⟨ag.l.length-(t+1),jb,t+1,rfl,jb,by rw[e3],rfl,λt' h'=>by
        by_cases e:t'=t
        .rw[e];exact λh=>hq2 h.2
        .exact hM t' jb,fr⟩
     .simp(disch:=try exact jz) only[go_sem,z3,t1,t2,t12,t13,t14,t19,t20,t21,hq]
      exact⟨ag.l.length-(t+1),jb,t+1,rfl,jb,by rw[e3],rfl,λt' h'=>by
       by_cases e:t'=t
       .rw[e];exact λh=>hq h.1
       .exact hM t' jb,fr⟩
    .have:t=ag.l.length:=jb
     subst this
     simp(disch:=try exact jz) only[go_sem,z3,t1,t2,t12,t13,t14]
     exact⟨dl.length-(j+1),jb,j+1,rfl,jb,rfl,λj' h'=>by
      by_cases e:j'=j
      .rw[e,hag];exact hM
      .exact hN j' jb,hf3⟩
  .have:j=dl.length:=jb
   subst this
   simp(disch:=try exact jz) only[go_sem,z3,t1]
   exact⟨⟨_,rfl,λ_=>hN⟩,hf⟩
structure LI(σ σ':St)(ev dv:B)(d0 d1 d2:Nat)(w:Rat)(l:List Ins.Lg)(bl:Nat):Prop where
 q1:σ'.h σ.aj=some ⟨[ev,dv],none⟩
 q2:σ'.h (σ.aj+1)=some ⟨[.int .u16 (.ofNat d0),.int .u16 (.ofNat d1),.int .u16 (.ofNat d2)],none⟩
 b:σ'.h (σ.aj+1+1)=some ⟨[.bool (rn w),.str (rs w),.str (rd w),ku l bl],none⟩
 lb:0<l.length->σ'.h bl=some ⟨bC l.length (λk=>MJ (ix l k)),some (2,135)⟩/\σ.aj+1+1+1<=bl/\bl<σ'.aj
 n:l.length<=4
 nx:σ.aj+1+1+1<=σ'.aj
 fr:Fr σ σ'
structure Vz(el:List vM)(dl:List qj)(i j:Nat)(hv:Int)(l:List Ins.Lg):Prop where
 r:∀x∈l,∃e k:Nat,x=⟨.ofNat e,.ofNat k⟩/\e<el.length/\k<(ix el e).c.length/\atb dl (.ofNat e) (.ofNat k)/\holdL el x=hv/\(e<i\/e=i/\k<j)
 nd:l.Nodup
def LGf(el:List vM)(dl:List qj)(l:List Ins.Lg):Prop:=∃hv,Vz el dl el.length 0 hv l
section
variable {el:List vM} {dl:List qj} {i j:Nat} {hv hv' : Int} {l:List Ins.Lg}
theorem Vz.nil:Vz el dl i j hv []:=⟨λx hx=>by simp at hx,List.nodup_nil⟩
def Vz.next(h:Vz el dl i j hv l):Vz el dl i (j+1) hv l:=⟨λx hx=>by obtain⟨e,k,h1,h2,h3,h4,h5,h6⟩:=h.r x hx;exact⟨e,k,h1,h2,h3,h4,h5,jb⟩,h.nd⟩
def Vz.row(h:Vz el dl i j hv l):Vz el dl (i+1) 0 hv l:=⟨λx hx=>by obtain⟨e,k,h1,h2,h3,h4,h5,h6⟩:=h.r x hx;exact⟨e,k,h1,h2,h3,h4,h5,jb⟩,h.nd⟩
def Vz.push(h:Vz el dl i j hv l)(hi:i<el.length){cl:List C5}(he:(ix el i).c=cl)(hj:j<cl.length)(hN:atb dl (.ofNat i) (.ofNat j))(hh:l=[]\/hv=hv')(hx:(ix cl j).h=hv'):Vz el dl i (j+1) hv' (l++[⟨.ofNat i,.ofNat j⟩]):=by
 refine⟨λx hm=>?_,?_⟩
 .rcases bZ.mp hm with hm|hm
  .obtain⟨e,k,h1,h2,h3,h4,h5,h6⟩:=h.r x hm;rcases hh with hh|hh
   .rw[hh]at hm;cases hm
   .exact⟨e,k,h1,h2,h3,h4,by rw[h5,hh],jb⟩
  .rw[dp]at hm;subst hm;refine⟨i,j,rfl,hi,by rw[he];exact hj,hN,?_,jb⟩;show(ix (ix el i).c j).h=_;rw[he];exact hx
 .rw[fR];refine⟨h.nd,(gO.mpr ⟨List.not_mem_nil,List.nodup_nil⟩),λa ha b hb e=>?_⟩;rw[dp]at hb;subst hb;obtain⟨e',k,h1,-,-,-,-,h6⟩:=h.r a ha;rw[e]at h1;have h7:=(Ins.Lg.mk.inj h1).1;have h8:=(Ins.Lg.mk.inj h1).2;have h7:=Int.ofNat.inj h7;have h8:=Int.ofNat.inj h8;omega
def Vz.perm{l':List Ins.Lg}(h:Vz el dl i j hv l)(hp:l'.Perm l):Vz el dl i j hv l':=⟨λx hx=>h.r x (hp.mem_iff.mp hx),hp.nodup_iff.mpr h.nd⟩
def swap_perm{l:List Ins.Lg}{i j:Nat}(hi:i<l.length)(hj:j<l.length):((l.set i (ix l j)).set j (ix l i)).Perm l:=by rw[dS hi,dS hj];exact List.set_set_perm hi hj
end
section
variable {σ σ' : St} {ev dv:B} {d0 d1 d2:Nat} {w:Rat} {l:List Ins.Lg} {bl:Nat}
def LI.step(hL:LI σ σ' ev dv d0 d1 d2 w l bl){σ3:St}(hf:Fr σ' σ3):LI σ σ3 ev dv d0 d1 d2 w l bl:=by
 have hn:=hL.nx;have hle:=hf.le;refine⟨?_,?_,?_,λh0=>?_,hL.n,jb,hL.fr.trans hf⟩
 .rw[hf.old _ jb];exact hL.q1
 .rw[hf.old _ jb];exact hL.q2
 .rw[hf.old _ jb];exact hL.b
 .obtain⟨k1,k2,k3⟩:=hL.lb h0;exact⟨by rw[hf.old _ k3];exact k1,k2,jb⟩
def LI.push(hL:LI σ σ' ev dv d0 d1 d2 w l bl){nx n':Nat}{x:Ins.Lg}{h':Tr Bk}(hl:l.length<=3)(hb:h' (σ.aj+1+1)=some ⟨[.bool (rn w),.str (rs w),.str (rd w),.sl nx 0 (l.length+1) .opn],none⟩)
  (hx:h' nx=some ⟨bC l.length (λk=>MJ (ix l k))++MJ x,some (2,135)⟩) (ho:∀b,b<σ.aj+1+1->h' b=σ'.h b) (hn:σ'.aj<=nx) (hn':nx<n') (hf:Fr σ ⟨h',n'⟩):LI σ ⟨h',n'⟩ ev dv d0 d1 d2 w (l++[x]) nx:=by
 have hn1:=hL.nx
 refine⟨by rw[ho _ jb];exact hL.q1,by rw[ho _ jb];exact hL.q2,?_,λ_=>⟨?_,jb,hn'⟩,by simp;omega,by show _<=n';omega,hf⟩
 .rw[iU kc,aD];exact hb
 .rw[aD,bX]
  show h' nx=_
  rw[hx,jr]
  congr 2
  refine bH λk hk=>?_
  unfold iP
  split
  .next e=>rw[e,gW]
  .rw[gV _ _ jb]
def LI.set(hL:LI σ σ' ev dv d0 d1 d2 w l bl){h':Tr Bk}{l':List Ins.Lg}(h0:0<l.length)(hl:l'.length=l.length)(hb:h' bl=some ⟨bC l.length (λk=>MJ (ix l' k)),some (2,135)⟩)(ho:∀b,b≠bl->h' b=σ'.h b)(hf:Fr σ ⟨h',σ'.aj⟩):LI σ ⟨h',σ'.aj⟩ ev dv d0 d1 d2 w l' bl:=by have hn1:=hL.nx;obtain⟨k1,k2,k3⟩:=hL.lb h0;refine⟨by rw[ho _ jb];exact hL.q1,by rw[ho _ jb];exact hL.q2,?_,λ_=>⟨by rw[hl];exact hb,k2,k3⟩,by rw[hl];exact hL.n,hL.nx,hf⟩;rw[ho _ jb,hL.b];unfold ku;rw[hl]
def atc(l:List Ins.Lg):l.length*2<=(bC l.length (λk=>MJ (ix l k))).length:=by rw[qw (e:=2) λ_=>rfl];exact jp
def an0(l:List Ins.Lg):(bC l.length (λk=>MJ (ix l k))).take (l.length*2)=bC l.length (λk=>MJ (ix l k)):=nI λ_=>rfl
def aqh{n i:Nat}(l:List Ins.Lg)(hn:l.length=n)(y:Ins.Lg)(hi:i<n):yN (bC n λk=>MJ (ix l k)) (i*2) [.int .i64 y.e,.int .i64 y.k]=some (bC n λk=>MJ (ix (l.set i y) k)):=by
 have:=x9 (e:=2) (k:=0) (vs:=MJ y) (G:=λk=>MJ (ix l k)) (λ_=>rfl) hi (by exact cM 2);rw[cA]at this;show yN _ _ (MJ y)=_;rw[this];show some _=some _;congr 1;refine bH λk hk=>?_;unfold iP;rw[show ix (l.set i y) k=if k=i then y else ix l k by
  unfold ix;rw[cF,cF,List.getElem?_set];by_cases e:k=i
  .subst e;rw[ae rfl,ae rfl,ae jb];rfl
  .rw[ab e,ab (Ne.symm e)]]
 split<;>rfl
def aqi{n i:Nat}(l:List Ins.Lg)(hi:i<n):zO (bC n λk=>MJ (ix l k)) (i*2) 2 true=some (.agg [.int .i64 (ix l i).e,.int .i64 (ix l i).k]):=by have:=zX (e:=2) (k:=0) (m:=2) (G:=λk=>MJ (ix l k)) true (λ_=>rfl) hi jj jj;rw[cA]at this;rw[this];rfl
end
def DK.at{p:Nat->Prop}{h:Tr Bk}{v:B}{el:List vM}(hE:DK p h v el){i:Nat}(hi:i<el.length):∃b o c,v=.sl b o el.length c/\∃C A:B,ld h b (o+i*5) 5 true=some (.agg [.bool (ix el i).m.n,.str (ix el i).m.s,.str (ix el i).m.d,C,A])/\ld h b (o+i*5+3) 1 false=some (.c C)/\oL p h C (ix el i).c/\iG p h A (ix el i).a:=by obtain⟨C,A,h1,h2⟩:=hE;obtain⟨b,o,c,e,-,hld⟩:=h1.pos jb;refine⟨b,o,c,e,C i,A i,hld i hi,?_,h2 i hi⟩;rw[yc (hld i hi) 3 1 false jj jj];unfold zO;have:=(h2 i hi).1.kn;simp[this]
def DK.len{p:Nat->Prop}{h:Tr Bk}{v:B}{l:List vM}(hl:DK p h v l):lenV (.c v)=some (.c (.int .i64 (.ofNat l.length))):=hl.choose_spec.choose_spec.1.len
def jL.el{p:Nat->Prop}{h:Tr Bk}{v:B}{dl:List qj}(hD:jL p h v dl){i:Nat}(hi:i<dl.length):∃b o c,v=.sl b o dl.length c/\∃T:B,ld h b (o+i*4) 4 true=some (.agg [.bool (ix dl i).w.n,.str (ix dl i).w.s,.str (ix dl i).w.d,T])/\AB p h T (ix dl i).l:=by obtain⟨L,h1,h2⟩:=hD;obtain⟨b,o,c,e,-,hld⟩:=h1.pos jb;exact⟨b,o,c,e,L i,hld i hi,h2 i hi⟩
def jL.len{p:Nat->Prop}{h:Tr Bk}{v:B}{dl:List qj}(hD:jL p h v dl):lenV (.c v)=some (.c (.int .i64 (.ofNat dl.length))):=hD.choose_spec.1.len
def awW:pz .sub (.c (.int .i64 (.ofNat 0))) (.c (.int .i64 (.ofNat 1)))=some (.c (.int .i64 (.negSucc 0))):=rfl
def azh:decide (Int.ofNat 0<Int.negSucc 0)=false:=rfl
def an1{σ σ':St}{ev dv:B}{d0 d1 d2:Nat}{w:Rat}{l:List Ins.Lg}{bl:Nat}{dl:List qj}(hW:WF σ){p:Nat->Prop}{T:Nat->B}(hT2:∀j,j<dl.length->AB p σ.h (T j) (ix dl j).l)(hT1:aX p σ.h 4 dv dl.length (λi=>[.bool (ix dl i).w.n,.str (ix dl i).w.s,.str (ix dl i).w.d,T i]))(hL:LI σ σ' ev dv d0 d1 d2 w l bl){el:List vM}(hG:LGf el dl l)
  {h':Tr Bk}{n' rb:Nat}(hr:h' rb=some ⟨bC (dl.length+1) (λj=>if j<dl.length then [.bool (ix dl j).w.n,.str (ix dl j).w.s,.str (ix dl j).w.d,T j]else [.bool (rn w),.str (rs w),.str (rd w),ku l bl]),some (4,132)⟩) (ho:∀b,b<σ'.aj->h' b=σ'.h b) (hrb:σ'.aj<=rb) (hn:rb<n') (hf:Fr σ ⟨h',n'⟩):
  (∃rv d,V.c (.sl rb 0 (dl.length+1) .opn)=.c rv/\jL (λb=>p b\/σ.aj<=b/\b<n') h' rv (dl++[d])/\d.l.length<=4/\d.w=mG w/\LGf el dl d.l)/\Fr σ ⟨h',n'⟩:=by
 have hle:=hL.fr.le
 have hn1:=hL.nx
 refine⟨⟨_,⟨mG w,l⟩,rfl,⟨λj=>if j<dl.length then T j else ku l bl,?_,λj hj=>?_⟩,hL.n,rfl,hG⟩,hf⟩
 .have:(dl++[(⟨mG w,l⟩:qj)]).length=dl.length+1:=by simp
  rw[this]
  have Pg:∀j,j<dl.length->(T j).kn=true:=λj hj=>(hT2 j hj).kn
  refine(bD (p:=λb=>p b\/σ.aj<=b/\b<n') _ hr rfl (.inr ⟨jb,hn⟩) (λj=>?_) jj λj hj=>?_).congr λj hj=>?_
  .split<;>rfl
  .split
   .next e=>simp only[cD,df,Pg j e,uY,zW,cR]
   .simp only[cD,df,qx,uY,zW,cR]
  .dsimp only
   split
   .next e=>rw[gV _ _ e]
   .next e=>
    obtain rfl:j=dl.length:=jb
    rw[gW];rfl
 .have hj':j<dl.length+1:=by simpa using hj
  dsimp only
  by_cases e:j<dl.length
  .rw[ae e,gV _ _ e]
   refine(aX.plt hW (hT2 j e)).keep (λb hb=>?_) λb hb=>.inl hb.1
   rw[ho b jb,hL.fr.old b hb.2]
  .rw[ab e]
   obtain rfl:j=dl.length:=jb
   rw[gW]
   by_cases h0:l.length=0
   .exact .inl ⟨h0,by unfold ku;rw[ae h0]⟩
   .obtain⟨k1,k2,k3⟩:=hL.lb jb
    rw[iU jb]
    exact bD (p:=λb=>p b\/σ.aj<=b/\b<n') _ (by rw[ho _ k3];exact k1) rfl (.inr ⟨jb,jb⟩) (λ_=>rfl) jj λ_ _=>rfl
def awX{σ:St}(hW:WF σ){p p':Nat->Prop}{ev dv:B}(el:List vM)(dl:List qj)(hE:DK p' σ.h ev el)(hD:jL p σ.h dv dl)(hl:awV dl)(hel:el.length<=1000)(hcl:∀i,i<el.length->(ix el i).c.length<=1000)
  (d0 d1 d2:Nat) (b0:d0<=65535) (b1:d1<=65535) (b2:d2<=65535):
  aC EN 40 [.agg [ev,dv],.agg [.int .u16 (.ofNat d0),.int .u16 (.ofNat d1),.int .u16 (.ofNat d2)]] σ λr σ'=>(∃rv d,r=.c rv/\jL (λb=>p b\/σ.aj<=b/\b<σ'.aj) σ'.h rv (dl++[d])/\d.l.length<=4/\d.w=mG (amt d2)/\LGf el dl d.l)/\Fr σ σ':=by
 refine aP (OW.o _ _) OW.h ?_
 unfold OW
 dsimp only
 have hek:=hE.kn
 have hdk:=hD.kn
 have hlenE:=hE.len
 simp(disch:=try exact jz) only[go_sem,z3,hek,hdk,hlenE]
 refine bM.mono (Q:=λe tm σ'=>e=.exit 0/\∃l bl,Tr.ah tm 2=.c (.ptr σ.aj 0)/\Tr.ah tm 3=.c (.ptr (σ.aj+1) 0)/\Tr.ah tm 5=.c (.ptr (σ.aj+1+1) 0)/\LGf el dl l/\LI σ σ' ev dv d0 d1 d2 (amt d2) l bl)
  (aF (λq tm σ'=>∃i k hv l bl,q=el.length-i/\i<=el.length/\k<=i*1000/\Tr.ah tm 2=.c (.ptr σ.aj 0)/\Tr.ah tm 3=.c (.ptr (σ.aj+1) 0)/\Tr.ah tm 5=.c (.ptr (σ.aj+1+1) 0)/\Tr.ah tm 6=.c (.int .i64 (.ofNat k))/\Tr.ah tm 7=.c (.int .i64 hv)/\Tr.ah tm 20=.c (.int .i64 (.ofNat el.length))/\Tr.ah tm 21=.c (.int .i64 (.ofNat i))
   /\Vz el dl i 0 hv l/\LI σ σ' ev dv d0 d1 d2 (amt d2) l bl) el.length ?_ ?_) ?_
 .refine⟨0,0,0,[],0,jb,jb,jb,?_⟩
  simp(disch:=try exact jz) only[go_sem,z3,am]
  refine⟨rfl,Vz.nil,?_,?_,?_,λh=>by simp at h,bp _,jp,?_⟩
  .simp(disch:=omega) only[ak,aA]
  .simp(disch:=omega) only[ak,aA]
  .rw[aA];rfl
  .exact fr
 .rintro q tm σ' ⟨i,k,hv,l,bl,rfl,hi,hk,t2,t3,t5,t6,t7,t20,t21,hG,hL⟩
  simp(disch:=try exact jz) only[go_sem,z3,t2,t3,t5,t6,t7,t20,t21,aG]
  refine aH (λhlt=>?_) (λhlt=>?_)
  .obtain⟨b,o,c,rfl,C,A,afD,uP,hC,-⟩:=hE.at hlt
   have uP:=hL.fr.ld hW uP
   have azi:=hcl i hlt
   generalize hei:(ix el i).c=cl at*
   have IY:=hC.len
   have aAT:=hC.kn
   have q1:=hL.q1
   have q2:=hL.q2
   simp(disch:=try exact jz) only[go_sem,z3,t2,t3,t5,t6,t7,t20,t21,au q1,hek,hdk,uP,IY]
   refine aF (λq tm σ3=>∃j k hv l bl,q=cl.length-j/\j<=cl.length/\k<=i*1000+j/\Tr.ah tm 2=.c (.ptr σ.aj 0)/\Tr.ah tm 3=.c (.ptr (σ.aj+1) 0)/\Tr.ah tm 5=.c (.ptr (σ.aj+1+1) 0)/\Tr.ah tm 6=.c (.int .i64 (.ofNat k))/\Tr.ah tm 7=.c (.int .i64 hv)/\Tr.ah tm 8=.c (.int .i64 (.ofNat i))/\Tr.ah tm 20=.c (.int .i64 (.ofNat el.length))/\Tr.ah tm 21=.c (.int .i64 (.ofNat i))
    /\Tr.ah tm 29=.c C/\Tr.ah tm 30=.c (.int .i64 (.ofNat cl.length))/\Tr.ah tm 31=.c (.int .i64 (.ofNat j))/\Vz el dl i j hv l/\LI σ σ3 (.sl b o el.length c) dv d0 d1 d2 (amt d2) l bl) cl.length ?_ ?_
   .refine⟨0,k,hv,l,bl,jb,jb,jb,?_⟩
    simp(disch:=try exact jz) only[go_sem,z3,t2,t3,t5,t6,t7,t20,t21,am]
    exact⟨hG,hL⟩
   .rintro q tm3 σ3 ⟨j,k3,hv3,l3,bl3,rfl,hj,hk3,t2,t3,t5,t6,t7,t8,t20,t21,t29,t30,t31,hG3,hL3⟩
    simp(disch:=try exact jz) only[go_sem,z3,t2,t3,t5,t6,t7,t8,t20,t21,t29,t30,t31,aG]
    refine aH (λhlt3=>?_) (λhlt3=>?_)
    .obtain⟨b5,o5,c5,e5,-,bf⟩:=hC.pos jb
     have bf:=hL3.fr.ld hW (bf j hlt3)
     unfold WW at bf
     have q1:=hL3.q1
     have q2:=hL3.q2
     have hn3:=hL3.nx
     have hle3:=hL3.fr.le
     rw[e5]at t29
     simp(disch:=try exact jz) only[go_sem,z3,t2,t3,t5,t6,t7,t8,t20,t21,t29,t30,t31,bf,au q1,hek,hdk]
     refine aC.st (Fr σ3) (by have hF:=Fr.refl hL3.fr.wf;exact fr) λhF3=>?_
     refine(anZ hF3.wf dl ((hD.fr hW hL3.fr).fr hL3.fr.wf hF3) hl hek (.ofNat i) (.ofNat j)).mono ?_
     rintro _ σ4 ⟨⟨fb,rfl,hNT⟩,hf4⟩
     have jB:=hF3.trans hf4
     have hL4:=hL3.step jB
     have oM:=jB.le
     have hn4:=hL4.nx
     have b4:=hL4.b
     have q2:=hL4.q2
     have hll:=hL4.n
     have ac9:=D8 l3 bl3
     have Yp:=qx l3 bl3
     have htb:σ4.h σ3.aj=some ⟨[.int .i64 (ix cl j).h,.int .i64 (ix cl j).r,.bool (ix cl j).a.n,.str (ix cl j).a.s,.str (ix cl j).a.d],none⟩:=hf4.get hF3.wf (aA _ _ _)
     have hr0:=wZ d0 (2^min (k3%16) 64) 9223372036854775807 jb
     have hk5:k3<=2000000:=by have:=bo 1000 (show i<=1000 by omega);omega
     have aAU:k3%16<16:=de _ jj
     cases fb
     .simp(disch:=try exact jz) only[go_sem,z3,t2,t3,t5,t6,t7,t8,t20,t21,t30,t31,au b4,ac9,Yp]
      refine aH (λhl4=>?_) (λhl4=>?_)
      .simp(disch:=try exact jz) only[go_sem,z3,t2,t3,t5,t6,t7,t8,t20,t21,t30,t31]
       exact⟨cl.length-(j+1),jb,j+1,k3,hv3,l3,bl3,rfl,jb,jb,rfl,rfl,by rw[e5];exact t29,rfl,hG3.next,hL4⟩
      .simp(disch:=try exact jz) only[go_sem,z3,t2,t3,t5,t6,t7,t8,t20,t21,t30,t31,au q2]
       have aAV:=hL4.fr
       have hl5:l3.length<=3:=by have h9:¬((4:Nat):Int)<=(l3.length:Int):=hl4;omega
       have aAv:σ3.aj<=σ4.aj:=jB.le
       refine MG (λhw=>?_) (λhw=>?_)
       .by_cases hz:l3.length=0
        .have he:ku l3 bl3=.aO:=by unfold ku;rw[ae hz]
         simp(disch:=try exact jz) only[go_sem,z3,t2,t3,t5,t6,t7,t8,t20,t21,t30,t31,hw,au b4,b4,he,au htb]
         refine⟨cl.length-(j+1),jb,j+1,k3+1,_,l3++[⟨.ofNat i,.ofNat j⟩],_,rfl,jb,jb,rfl,rfl,by rw[e5];exact t29,rfl,hG3.push hlt hei hlt3 (hNT rfl) (.inl (fe hz)) rfl,LI.push (nx:=σ4.aj+1) hL4 jb ?_ ?_ ?_ ?_ ?_ ?_⟩
         .rw[aA,hz]
         .rw[ak _ _ _ _ jb,aA,hz];rfl
         .intro b9 h9;simp(disch:=omega) only[ak]
         .omega
         .omega
         .exact fr
        .have he:=iU (l:=l3) jb bl3
         obtain⟨k1,k2,k9⟩:=hL4.lb jb
         have hpl:=atc l3
         have hpt:=an0 l3
         have hz2:¬(0=l3.length):=jb
         simp(disch:=try exact jz) only[go_sem,z3,t2,t3,t5,t6,t7,t8,t20,t21,t30,t31,hw,au b4,b4,he,au htb,hz,k1,hpt]
         refine aH (λhh=>?_) (λhh=>?_)
         .simp(disch:=try exact jz) only[go_sem,z3,t2,t3,t5,t6,t7,t8,t20,t21,t30,t31,hw,au b4,b4,he,au htb,hz,k1,hpt]
          refine⟨cl.length-(j+1),jb,j+1,k3+1,_,l3++[⟨.ofNat i,.ofNat j⟩],_,rfl,jb,jb,rfl,rfl,by rw[e5];exact t29,rfl,hG3.push hlt hei hlt3 (hNT rfl) (.inr (by first|exact hh|exact hh.symm)) rfl,LI.push (nx:=σ4.aj+1) hL4 jb ?_ ?_ ?_ ?_ ?_ ?_⟩
          .rw[aA]
          .rw[ak _ _ _ _ jb,aA];rfl
          .intro b9 h9;simp(disch:=omega) only[ak,eX]
          .omega
          .omega
          .exact fr
         .simp(disch:=try exact jz) only[go_sem,z3,t2,t3,t5,t6,t7,t8,t20,t21,t30,t31,hw]
          exact⟨cl.length-(j+1),jb,j+1,k3+1,hv3,l3,bl3,rfl,jb,jb,rfl,rfl,by rw[e5];exact t29,rfl,hG3.next,hL4⟩
       .simp(disch:=try exact jz) only[go_sem,z3,t2,t3,t5,t6,t7,t8,t20,t21,t30,t31,hw]
        exact⟨cl.length-(j+1),jb,j+1,k3+1,hv3,l3,bl3,rfl,jb,jb,rfl,rfl,by rw[e5];exact t29,rfl,hG3.next,hL4⟩
     .simp(disch:=try exact jz) only[go_sem,z3,t2,t3,t5,t6,t7,t8,t20,t21,t30,t31]
      exact⟨cl.length-(j+1),jb,j+1,k3,hv3,l3,bl3,rfl,jb,jb,rfl,rfl,by rw[e5];exact t29,rfl,hG3.next,hL4⟩
    .have:j=cl.length:=jb
     subst this
     simp(disch:=try exact jz) only[go_sem,z3,t2,t3,t5,t6,t7,t8,t20,t21,t29,t30,t31]
     exact⟨el.length-(i+1),jb,i+1,k3,hv3,l3,bl3,rfl,jb,jb,rfl,rfl,rfl,hG3.row,hL3⟩
  .have hie:i=el.length:=jb
   simp(disch:=try exact jz) only[go_sem,z3,am]
   exact⟨l,bl,t2,t3,t5,⟨hv,hie▸hG⟩,hL⟩
 .rintro _ tm σ' ⟨rfl,l,bl,t2,t3,t5,⟨hvf,hG⟩,hL⟩
  show bM EN (.seq _ _) _ _ _
  refine ac7 (λtm σ3=>∃l bl,Tr.ah tm 2=.c (.ptr σ.aj 0)/\Tr.ah tm 5=.c (.ptr (σ.aj+1+1) 0)/\LGf el dl l/\LI σ σ3 ev dv d0 d1 d2 (amt d2) l bl) ?_ ?_
  .have q2:=hL.q2
   have hF:=hL.fr
   have b5:=hL.b
   have hn:=hL.n
   have ac9:=D8 l bl
   have Yp:=qx l bl
   simp(disch:=try exact jz) only[go_sem,z3,t2,t3,t5,au q2]
   refine aH (λhr=>?_) (λhr=>?_)
   .by_cases hz:l.length=0
    .simp(disch:=try exact jz) only[go_sem,z3,t2,t3,t5,au b5,ac9,Yp,hz,awW]
     refine aF (λq tm σ3=>q=0/\σ3=σ'/\Tr.ah tm 2=.c (.ptr σ.aj 0)/\Tr.ah tm 5=.c (.ptr (σ.aj+1+1) 0)/\Tr.ah tm 12=.c (.int .i64 (.ofNat 0))/\Tr.ah tm 13=.c (.int .i64 (.negSucc 0))) 0 ?_ ?_
     .simp(disch:=try exact jz) only[go_sem,z3,am]
      exact⟨t2,t5⟩
     .rintro q tm σ3 ⟨rfl,rfl,t2,t5,t12,t13⟩
      simp(disch:=try exact jz) only[go_sem,z3,t2,t5,t12,t13,azh,am]
      exact⟨l,bl,⟨hvf,hG⟩,hL⟩
    .have h11:1<=l.length:=jb
     simp(disch:=try exact jz) only[go_sem,z3,t2,t3,t5,au b5,ac9,Yp]
     refine aF (λq tm σ3=>∃i j l3,q=l.length-i/\i<=l.length/\j<l.length/\l3.length=l.length/\Tr.ah tm 2=.c (.ptr σ.aj 0)/\Tr.ah tm 5=.c (.ptr (σ.aj+1+1) 0)/\Tr.ah tm 12=.c (.int .i64 (.ofNat i))/\Tr.ah tm 13=.c (.int .i64 (.ofNat j))/\Vz el dl el.length 0 hvf l3/\LI σ σ3 ev dv d0 d1 d2 (amt d2) l3 bl) l.length ?_ ?_
     .refine⟨0,l.length-1,l,jb,jb,jb,rfl,?_⟩
      simp(disch:=try exact jz) only[go_sem,z3,t2,t5,am]
      exact⟨hG,hL⟩
     .rintro q tm σ3 ⟨i,j,l3,rfl,hi,hj,hl3,t2,t5,t12,t13,hG3,hL3⟩
      simp(disch:=try exact jz) only[go_sem,z3,t2,t5,t12,t13,aG]
      refine aH (λhij=>?_) (λhij=>?_)
      .have b5:=hL3.b
       have he:=iU (l:=l3) jb bl
       rw[he]at b5
       obtain⟨k1,k2,k9⟩:=hL3.lb jb
       have hn3:=hL3.nx
       have hF3:=hL3.fr
       have hle:=hF3.le
       rw[hl3]at b5 k1
       have r1:=aqi (n:=l.length) (i:=i) l3 jb
       have r2:=aqi (n:=l.length) (i:=j) l3 hj
       have w1:=aqh (n:=l.length) (i:=i) l3 hl3 (ix l3 j) jb
       have w2:=aqh (n:=l.length) (i:=j) (l3.set i (ix l3 j)) (by simp[hl3]) (ix l3 i) hj
       simp(disch:=try exact jz) only[go_sem,z3,t2,t5,t12,t13,au b5,au k1,aI k1,r1,r2,w1,w2]
       refine⟨l.length-(i+1),jb,i+1,j-1,(l3.set i (ix l3 j)).set j (ix l3 i),rfl,jb,jb,by simp[hl3],rfl,rfl,hG3.perm (swap_perm jb jb),hL3.set jb kc ?_ ?_ ?_⟩
       .rw[aA,hl3]
       .intro b9 h9
        rw[ak _ _ _ _ h9,ak _ _ _ _ h9]
       .exact fr
      .simp(disch:=try exact jz) only[go_sem,z3,t2,t5,t12,t13,am]
       exact⟨l3,bl,⟨hvf,hG3⟩,hL3⟩
   .simp(disch:=try exact jz) only[go_sem,z3,am]
    exact⟨l,bl,t2,t5,⟨hvf,hG⟩,hL⟩
  .rintro tm σ3 ⟨l,bl,t2,t5,hG,hL⟩
   have hF:=hL.fr
   have hle:=hL.fr.le
   have hn:=hL.nx
   have b5:=hL.b
   have q1:=hL.q1
   have Yp:=qx l bl
   obtain⟨T,hT1,hT2⟩:=hD
   have hdl:=hl.1
   have hfin:=λ(h':Tr Bk) (n' rb:Nat)=>an1 (h':=h') (n':=n') (rb:=rb) hW hT2 hT1 hL hG
   by_cases h0:dl.length=0
   .have hA0:dv=.aO\/∃b o c,dv=.sl b o 0 c:=by
     rcases hT1 with⟨-,e⟩|⟨b,o,c,e,-⟩
     .exact .inl e
     .exact .inr ⟨b,o,c,by rw[e,h0]⟩
    have hend:∀h':Tr Bk,h'=hset (hset σ3.h σ3.aj ⟨[.bool (rn (amt d2)),.str (rs (amt d2)),.str (rd (amt d2)),ku l bl],none⟩) (σ3.aj+1) ⟨[.bool (rn (amt d2)),.str (rs (amt d2)),.str (rd (amt d2)),ku l bl],some (4,132)⟩->(∃rv d,V.c (.sl (σ3.aj+1) 0 1 .opn)=.c rv/\jL (λb=>p b\/σ.aj<=b/\b<σ3.aj+1+1) h' rv (dl++[d])/\d.l.length<=4/\d.w=mG (amt d2)/\LGf el dl d.l)/\Fr σ ⟨h',σ3.aj+1+1⟩:=λh' e=>by subst e;have:=hfin (hset (hset σ3.h σ3.aj ⟨[.bool (rn (amt d2)),.str (rs (amt d2)),.str (rd (amt d2)),ku l bl],none⟩) (σ3.aj+1) ⟨[.bool (rn (amt d2)),.str (rs (amt d2)),.str (rd (amt d2)),ku l bl],some (4,132)⟩) (σ3.aj+1+1) (σ3.aj+1) (by rw[aA,h0];rfl) (λb9 h9=>by simp(disch:=omega) only[ak]) jb jb (fr);rw[h0]at this;exact this
    rcases hA0 with rfl|⟨b,o,c,rfl⟩
    .simp(disch:=try exact jz) only[go_sem,z3,t2,t5,au q1,au b5,hek,Yp]
     exact hend _ rfl
    .simp(disch:=try exact jz) only[go_sem,z3,t2,t5,au q1,au b5,hek,Yp]
     exact hend _ rfl
   .obtain⟨b,o,c,rfl,-,hld⟩:=hT1.pos jb
    have hbl:=hW.dw (hld 0 jb)
    obtain⟨kk,e1,e2,e3,e4,e5⟩:=S9 jb λi hi=>hF.ld hW (hld i hi)
    have hct:=nI (e:=4) (n:=dl.length) (G:=λi=>[B.bool (ix dl i).w.n,.str (ix dl i).w.s,.str (ix dl i).w.d,T i]) λ_=>rfl
    have hcn:dl.length*4<=(bC dl.length λi=>[B.bool (ix dl i).w.n,.str (ix dl i).w.s,.str (ix dl i).w.d,T i]).length:=by rw[e4];exact jp
    simp(disch:=try exact jz) only[go_sem,z3,t2,t5,au q1,au b5,hek,Yp,e1,e3,e4,e5,e2,hct]
    refine hfin _ _ _ ?_ ?_ jb jb ?_
    .rw[aA,jr]
     congr 2
     refine bH λj hj=>?_
     unfold iP
     by_cases e:j=dl.length
     .rw[ae e,ab jb]
     .rw[ab e,ae jb]
    .intro b9 h9
     simp(disch:=omega) only[ak,eX]
    .exact fr
end Go.Proofs.Xe
