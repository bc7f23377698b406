import Derived.Test.YtjhhfbbndfpdaaaGreatDoorYg22
set_option linter.all false
set_option maxRecDepth 100000
set_option maxHeartbeats 8000000
namespace Go.Proofs.Xe
open Go.RowKit Go.Proofs.Ins
def jY.lt{J:St}(hW:WF J){p:Nat->Prop}{v:B}{l:List pX}(hl:jY p J.h v l):jY (Lt J.aj) J.h v l:=by obtain⟨L,h3,h4⟩:=hl;exact⟨L,h3.lt hW,λi hi=>(h4 i hi).lt hW⟩
theorem jY.fr{J J':St}(hW:WF J)(hf:Fr J J'){p:Nat->Prop}{v:B}{l:List pX}(hl:jY p J.h v l):jY (Lt J.aj) J'.h v l:=(hl.lt hW).keep hf.lt λ_ h=>h
def auQ(dl:List pX)(i c:Int):Prop:=∀j,j<dl.length->∀t,t<(ix dl j).l.length->¬((ix (ix dl j).l t).e=i/\(ix (ix dl j).l t).k=c)
def ayP(dl:List pX):Prop:=dl.length<=1000/\∀j,j<dl.length->(ix dl j).l.length<=1000
def apk{J:St}(hW:WF J){p:Nat->Prop}{ev dv:B}(dl:List pX)(hD:jY p J.h dv dl)(hl:ayP dl)(h1:ev.kn=true)(i c:Int):
  aC EN 44 [.agg [ev,dv],.c (.int .i64 i),.c (.int .i64 c)] J λr J'=>(∃b,r=.c (.bool b)/\(b=false->auQ dl i c))/\Fr J J':=by
 refine aN (Hr.o _ _) Hr.h ?_
 unfold Hr
 dsimp only
 obtain⟨T,hT,hT2⟩:=hD
 have hlen:=hT.len
 have hkn:=hT.kn
 simp(disch:=try exact jz)only[go_sem,hkn,hlen]
 refine aF (λq tm J'=>∃j,q=dl.length-j/\j<=dl.length/\r8 tm 1=.c (.int .i64 i)/\r8 tm 2=.c (.int .i64 c)/\r8 tm 12=.c dv/\r8 tm 13=jN dl.length/\r8 tm 14=jN j/\(∀j',j'<j->∀t,t<(ix dl j').l.length->¬((ix (ix dl j').l t).e=i/\(ix (ix dl j').l t).k=c))/\Fr J J') dl.length ?_ ?_
 .refine⟨0,jb,jb,?_⟩
  refine WN ?_
  exact⟨λj' h=>jb,fr⟩
 .rintro q tm J' ⟨j,rfl,hj,t1,t2,t12,t13,t14,hN,hf⟩
  have hle:=hf.le
  have hl0:=hl.1
  simp(disch:=try exact jz)only[go_sem,t13,t14,aA]
  refine aH (λhlt=>?_) (λhlt=>?_)
  .obtain⟨b,o,cc,rfl,-,hld⟩:=hT.pos jb
   have hld:=hf.ld hW (hld j hlt)
   have hTj:=hT2 j hlt
   have hlj:=hl.2 j hlt
   generalize hag:ix dl j=ag at*
   have aku:=hTj.len
   have aBj:=hTj.kn
   simp(disch:=try exact jz)only[go_sem,t12,t14,hld,aBj,aku]
   refine aF (λq tm σ3=>∃t,q=ag.l.length-t/\t<=ag.l.length/\r8 tm 1=.c (.int .i64 i)/\r8 tm 2=.c (.int .i64 c)/\r8 tm 12=.c (.sl b o dl.length cc)/\r8 tm 13=jN dl.length/\r8 tm 14=jN j
    /\r8 tm 19=.c (T j)/\r8 tm 20=jN ag.l.length/\r8 tm 21=jN t/\(∀t',t'<t->¬((ix ag.l t').e=i/\(ix ag.l t').k=c))/\Fr J σ3) ag.l.length ?_ ?_
   .refine⟨0,jb,jb,?_⟩
    refine W0 ?_
    exact⟨λt' h=>jb,fr⟩
   .rintro q tm3 σ3 ⟨t,rfl,ht,t1,t2,t12,t13,t14,t19,t20,t21,hM,hf3⟩
    have hle3:=hf3.le
    simp(disch:=try exact jz)only[go_sem,t20,t21,aA]
    refine aH (λhlt3=>?_) (λhlt3=>?_)
    .obtain⟨b3,o3,c3,e3,-,vk⟩:=hTj.pos jb
     have vk:=hf3.ld hW (vk t hlt3)
     unfold NY at vk
     rw[e3]at t19
     simp(disch:=try exact jz)only[go_sem,t1,t19,t21,vk]
     refine Jf (λhq=>?_) (λhq=>?_)
     .simp(disch:=try exact jz)only[go_sem,t2,hq]
      refine aH (λhq2=>?_) (λhq2=>?_)
      .refine WX ?_
       exact⟨⟨_,rfl,λh=>by cases h⟩,fr⟩
      .refine WP ?_
       exact⟨ag.l.length-(t+1),jb,t+1,rfl,jb,by rw[e3],rfl,λt' h'=>by
        by_cases e:t'=t
        .rw[e];exact λh=>hq2 h.2
        .exact hM t' jb,fr⟩
     .simp(disch:=try exact jz)only[go_sem,W3,hq]
      exact⟨ag.l.length-(t+1),jb,t+1,rfl,jb,by rw[e3],rfl,λt' h'=>by
       by_cases e:t'=t
       .rw[e];exact λh=>hq h.1
       .exact hM t' jb,fr⟩
    .have:t=ag.l.length:=jb
     subst this
     simp(disch:=try exact jz)only[go_sem,t1,t2,t12,t13,t14]
     exact⟨dl.length-(j+1),jb,j+1,rfl,jb,rfl,λj' h'=>by
      by_cases e:j'=j
      .rw[e,hag];exact hM
      .exact hN j' jb,hf3⟩
  .have:j=dl.length:=jb
   subst this
   refine WX ?_
   exact⟨⟨_,rfl,λ_=>hN⟩,hf⟩
structure LI(J J':St)(ev dv:B)(d0 d1 d2:Nat)(w:Rat)(l:List Ins.Lg)(bl:Nat):Prop where
 q1:J'.h J.aj=some ⟨[ev,dv],none⟩
 q2:J'.h (J.aj+1)=some ⟨[.int .u16 (.ofNat d0),.int .u16 (.ofNat d1),.int .u16 (.ofNat d2)],none⟩
 b:J'.h (J.aj+1+1)=some ⟨[.bool (rn w),.str (rs w),.str (rd w),kM l bl],none⟩
 lb:0<l.length->J'.h bl=some ⟨aY l.length (λk=>NY (ix l k)),some (2,99)⟩/\J.aj+1+1+1<=bl/\bl<J'.aj
 n:l.length<=4
 nx:J.aj+1+1+1<=J'.aj
 fr:Fr J J'
structure WU(el:List vZ)(dl:List pX)(i j:Nat)(hv:Int)(l:List Ins.Lg):Prop where
 r:∀x∈l,∃e k:Nat,x=⟨.ofNat e,.ofNat k⟩/\e<el.length/\k<(ix el e).c.length/\auQ dl (.ofNat e) (.ofNat k)/\holdL el x=hv/\(e<i\/e=i/\k<j)
 nd:l.Nodup
def LGf(el:List vZ)(dl:List pX)(l:List Ins.Lg):Prop:=∃hv,WU el dl el.length 0 hv l
section
variable {el:List vZ} {dl:List pX} {i j:Nat} {hv hv' : Int} {l:List Ins.Lg}
theorem WU.nil:WU el dl i j hv []:=⟨λx hx=>by simp at hx,List.nodup_nil⟩
def WU.next(h:WU el dl i j hv l):WU el dl i (j+1) hv l:=⟨λx hx=>by obtain⟨e,k,h1,h2,h3,h4,h5,h6⟩:=h.r x hx;exact⟨e,k,h1,h2,h3,h4,h5,jb⟩,h.nd⟩
def WU.row(h:WU el dl i j hv l):WU el dl (i+1) 0 hv l:=⟨λx hx=>by obtain⟨e,k,h1,h2,h3,h4,h5,h6⟩:=h.r x hx;exact⟨e,k,h1,h2,h3,h4,h5,jb⟩,h.nd⟩
def WU.push(h:WU el dl i j hv l)(hi:i<el.length){cl:List C5}(he:(ix el i).c=cl)(hj:j<cl.length)(hN:auQ dl (.ofNat i) (.ofNat j))(hh:l=[]\/hv=hv')(hx:(ix cl j).h=hv'):WU el dl i (j+1) hv' (l++[⟨.ofNat i,.ofNat j⟩]):=by
 refine⟨λx hm=>?_,?_⟩
 .rcases bY.mp hm with hm|hm
  .obtain⟨e,k,h1,h2,h3,h4,h5,h6⟩:=h.r x hm;rcases hh with hh|hh
   .rw[hh]at hm;cases hm
   .exact⟨e,k,h1,h2,h3,h4,by rw[h5,hh],jb⟩
  .rw[dq]at hm;subst hm;refine⟨i,j,rfl,hi,by rw[he];exact hj,hN,?_,jb⟩;show(ix (ix el i).c j).h=_;rw[he];exact hx
 .rw[fm];refine⟨h.nd,(gw.mpr ⟨List.not_mem_nil,List.nodup_nil⟩),λa ha b hb e=>?_⟩;rw[dq]at hb;subst hb;obtain⟨e',k,h1,-,-,-,-,h6⟩:=h.r a ha;rw[e]at h1;have h7:=(Ins.Lg.mk.inj h1).1;have h8:=(Ins.Lg.mk.inj h1).2;have h7:=Int.ofNat.inj h7;have h8:=Int.ofNat.inj h8;omega
def WU.perm{l':List Ins.Lg}(h:WU el dl i j hv l)(hp:l'.Perm l):WU el dl i j hv l':=⟨λx hx=>h.r x (hp.mem_iff.mp hx),hp.nodup_iff.mpr h.nd⟩
def swap_perm{l:List Ins.Lg}{i j:Nat}(hi:i<l.length)(hj:j<l.length):((l.set i (ix l j)).set j (ix l i)).Perm l:=by rw[dV hi,dV hj];exact List.set_set_perm hi hj
end
section
variable {J J' : St} {ev dv:B} {d0 d1 d2:Nat} {w:Rat} {l:List Ins.Lg} {bl:Nat}
def LI.step(hL:LI J J' ev dv d0 d1 d2 w l bl){σ3:St}(hf:Fr J' σ3):LI J σ3 ev dv d0 d1 d2 w l bl:=by
 have hn:=hL.nx;have hle:=hf.le;refine⟨?_,?_,?_,λh0=>?_,hL.n,jb,hL.fr.trans hf⟩
 .rw[hf.old _ jb];exact hL.q1
 .rw[hf.old _ jb];exact hL.q2
 .rw[hf.old _ jb];exact hL.b
 .obtain⟨k1,k2,k3⟩:=hL.lb h0;exact⟨by rw[hf.old _ k3];exact k1,k2,jb⟩
def LI.push(hL:LI J J' ev dv d0 d1 d2 w l bl){nx n':Nat}{x:Ins.Lg}{h':Tr Bk}(hl:l.length<=3)(hb:h' (J.aj+1+1)=some ⟨[.bool (rn w),.str (rs w),.str (rd w),.sl nx 0 (l.length+1) .opn],none⟩)
  (hx:h' nx=some ⟨aY l.length (λk=>NY (ix l k))++NY x,some (2,99)⟩) (ho:∀b,b<J.aj+1+1->h' b=J'.h b) (hn:J'.aj<=nx) (hn':nx<n') (hf:Fr J ⟨h',n'⟩):LI J ⟨h',n'⟩ ev dv d0 d1 d2 w (l++[x]) nx:=by
 have hn1:=hL.nx
 refine⟨by rw[ho _ jb];exact hL.q1,by rw[ho _ jb];exact hL.q2,?_,λ_=>⟨?_,jb,hn'⟩,by simp;omega,by show _<=n';omega,hf⟩
 .rw[jg kc,ax];exact hb
 .rw[ax,bR]
  show h' nx=_
  rw[hx,jv]
  congr 2
  refine bf λk hk=>?_
  unfold iC
  split
  .next e=>rw[e,ig]
  .rw[gZ _ _ jb]
def LI.set(hL:LI J J' ev dv d0 d1 d2 w l bl){h':Tr Bk}{l':List Ins.Lg}(h0:0<l.length)(hl:l'.length=l.length)(hb:h' bl=some ⟨aY l.length (λk=>NY (ix l' k)),some (2,99)⟩)(ho:∀b,b≠bl->h' b=J'.h b)(hf:Fr J ⟨h',J'.aj⟩):LI J ⟨h',J'.aj⟩ ev dv d0 d1 d2 w l' bl:=by have hn1:=hL.nx;obtain⟨k1,k2,k3⟩:=hL.lb h0;refine⟨by rw[ho _ jb];exact hL.q1,by rw[ho _ jb];exact hL.q2,?_,λ_=>⟨by rw[hl];exact hb,k2,k3⟩,by rw[hl];exact hL.n,hL.nx,hf⟩;rw[ho _ jb,hL.b];unfold kM;rw[hl]
def auR(l:List Ins.Lg):l.length*2<=(aY l.length (λk=>NY (ix l k))).length:=by rw[ng (e:=2) λ_=>rfl];exact jp
def apl(l:List Ins.Lg):(aY l.length (λk=>NY (ix l k))).take (l.length*2)=aY l.length (λk=>NY (ix l k)):=jO λ_=>rfl
def arK{n i:Nat}(l:List Ins.Lg)(hn:l.length=n)(y:Ins.Lg)(hi:i<n):wI (aY n λk=>NY (ix l k)) (i*2) [.int .i64 y.e,.int .i64 y.k]=some (aY n λk=>NY (ix (l.set i y) k)):=by
 have:=uS (e:=2) (k:=0) (vs:=NY y) (G:=λk=>NY (ix l k)) (λ_=>rfl) hi (by exact cx 2);rw[bO]at this;show wI _ _ (NY y)=_;rw[this];show some _=some _;congr 1;refine bf λk hk=>?_;unfold iC;rw[show ix (l.set i y) k=if k=i then y else ix l k by
  unfold ix;rw[cQ,cQ,List.getElem?_set];by_cases e:k=i
  .subst e;rw[ab rfl,ab rfl,ab jb];rfl
  .rw[ae e,ae (Ne.symm e)]]
 split<;>rfl
def arL{n i:Nat}(l:List Ins.Lg)(hi:i<n):yZ (aY n λk=>NY (ix l k)) (i*2) 2 true=some (.agg [.int .i64 (ix l i).e,.int .i64 (ix l i).k]):=by have:=Ap (e:=2) (k:=0) (m:=2) (G:=λk=>NY (ix l k)) true (λ_=>rfl) hi jj jj;rw[bO]at this;rw[this];rfl
end
def Ep.at{p:Nat->Prop}{h:Tr Bk}{v:B}{el:List vZ}(hE:Ep p h v el){i:Nat}(hi:i<el.length):∃b o c,v=.sl b o el.length c/\∃C A:B,ld h b (o+i*5) 5 true=some (.agg [.bool (ix el i).m.n,.str (ix el i).m.s,.str (ix el i).m.d,C,A])/\ld h b (o+i*5+3) 1 false=some (.c C)/\pJ p h C (ix el i).c/\iH p h A (ix el i).a:=by obtain⟨C,A,h1,h2⟩:=hE;obtain⟨b,o,c,e,-,hld⟩:=h1.pos jb;refine⟨b,o,c,e,C i,A i,hld i hi,?_,h2 i hi⟩;rw[wL (hld i hi) 3 1 false jj jj];unfold yZ;have:=(h2 i hi).1.kn;simp[this]
def Ep.len{p:Nat->Prop}{h:Tr Bk}{v:B}{l:List vZ}(hl:Ep p h v l):lenV (.c v)=some (jN l.length):=hl.choose_spec.choose_spec.1.len
def jY.el{p:Nat->Prop}{h:Tr Bk}{v:B}{dl:List pX}(hD:jY p h v dl){i:Nat}(hi:i<dl.length):∃b o c,v=.sl b o dl.length c/\∃T:B,ld h b (o+i*4) 4 true=some (.agg [.bool (ix dl i).w.n,.str (ix dl i).w.s,.str (ix dl i).w.d,T])/\Bg p h T (ix dl i).l:=by obtain⟨L,h1,h2⟩:=hD;obtain⟨b,o,c,e,-,hld⟩:=h1.pos jb;exact⟨b,o,c,e,L i,hld i hi,h2 i hi⟩
def jY.len{p:Nat->Prop}{h:Tr Bk}{v:B}{dl:List pX}(hD:jY p h v dl):lenV (.c v)=some (jN dl.length):=hD.choose_spec.1.len
def ayQ:iT .sub (jN 0) (jN 1)=some (.c (.int .i64 (.negSucc 0))):=rfl
def aBk:decide (Int.ofNat 0<Int.negSucc 0)=false:=rfl
def apm{J J':St}{ev dv:B}{d0 d1 d2:Nat}{w:Rat}{l:List Ins.Lg}{bl:Nat}{dl:List pX}(hW:WF J){p:Nat->Prop}{T:Nat->B}(hT2:∀j,j<dl.length->Bg p J.h (T j) (ix dl j).l)(hT1:aZ p J.h 4 dv dl.length (λi=>[.bool (ix dl i).w.n,.str (ix dl i).w.s,.str (ix dl i).w.d,T i]))(hL:LI J J' ev dv d0 d1 d2 w l bl){el:List vZ}(hG:LGf el dl l)
  {h':Tr Bk}{n' rb:Nat}(hr:h' rb=some ⟨aY (dl.length+1) (λj=>if j<dl.length then [.bool (ix dl j).w.n,.str (ix dl j).w.s,.str (ix dl j).w.d,T j]else [.bool (rn w),.str (rs w),.str (rd w),kM l bl]),some (4,96)⟩) (ho:∀b,b<J'.aj->h' b=J'.h b) (hrb:J'.aj<=rb) (hn:rb<n') (hf:Fr J ⟨h',n'⟩):
  (∃rv d,V.c (.sl rb 0 (dl.length+1) .opn)=.c rv/\jY (λb=>p b\/J.aj<=b/\b<n') h' rv (dl++[d])/\d.l.length<=4/\d.w=mV w/\LGf el dl d.l)/\Fr J ⟨h',n'⟩:=by
 have hle:=hL.fr.le
 have hn1:=hL.nx
 refine⟨⟨_,⟨mV w,l⟩,rfl,⟨λj=>if j<dl.length then T j else kM l bl,?_,λj hj=>?_⟩,hL.n,rfl,hG⟩,hf⟩
 .have:(dl++[(⟨mV w,l⟩:pX)]).length=dl.length+1:=by simp
  rw[this]
  have WT:∀j,j<dl.length->(T j).kn=true:=λj hj=>(hT2 j hj).kn
  refine(bD (p:=λb=>p b\/J.aj<=b/\b<n') _ hr rfl (.inr ⟨jb,hn⟩) (λj=>?_) jj λj hj=>?_).congr λj hj=>?_
  .split<;>rfl
  .split
   .next e=>simp only[cy,di,WT j e,vK,Am,cI]
   .simp only[cy,di,qO,vK,Am,cI]
  .dsimp only
   split
   .next e=>rw[gZ _ _ e]
   .next e=>
    obtain rfl:j=dl.length:=jb
    rw[ig];rfl
 .have hj':j<dl.length+1:=by simpa using hj
  dsimp only
  by_cases e:j<dl.length
  .rw[ab e,gZ _ _ e]
   refine(aZ.plt hW (hT2 j e)).keep (λb hb=>?_) λb hb=>.inl hb.1
   rw[ho b jb,hL.fr.old b hb.2]
  .rw[ae e]
   obtain rfl:j=dl.length:=jb
   rw[ig]
   by_cases h0:l.length=0
   .exact .inl ⟨h0,by unfold kM;rw[ab h0]⟩
   .obtain⟨k1,k2,k3⟩:=hL.lb jb
    rw[jg jb]
    exact bD (p:=λb=>p b\/J.aj<=b/\b<n') _ (by rw[ho _ k3];exact k1) rfl (.inr ⟨jb,jb⟩) (λ_=>rfl) jj λ_ _=>rfl
theorem ayR {J:St} (hW:WF J) {p p' : Nat→Prop} {ev dv:B} (el:List vZ) (dl:List pX) (hE:Ep p' J.h ev el) (hD:jY p J.h dv dl) (hl:ayP dl) (hel:el.length≤1000) (hcl : ∀ i,i<el.length→(ix el i).c.length≤1000)
  (d0 d1 d2:Nat) (b0:d0≤65535) (b1:d1≤65535) (b2:d2≤65535) :
  aC EN 24 [.agg [ev,dv],.agg [.int .u16 (.ofNat d0),.int .u16 (.ofNat d1),.int .u16 (.ofNat d2)]] J fun r J'=>(∃ rv d,r = .c rv∧jY (fun b=>p b∨J.aj≤b∧b<J'.aj) J'.h rv (dl ++ [d])∧d.l.length≤4∧d.w=mV (amt d2)∧LGf el dl d.l)∧Fr J J':=by
 refine aN (Ql.o _ _) Ql.h ?_
 unfold Ql
 dsimp only
 have hek:=hE.kn
 have hdk:=hD.kn
 have hlenE:=hE.len
 simp (disch:=try exact jz) only [go_sem,z3,hek,hlenE]
 refine bM.mono (Q:=fun e tm J'=>e = .exit 0∧∃ l bl,r8 tm 2 = .c (.ptr J.aj 0)∧r8 tm 3 = .c (.ptr (J.aj+1) 0)∧r8 tm 5 = .c (.ptr (J.aj+1+1) 0)∧LGf el dl l∧LI J J' ev dv d0 d1 d2 (amt d2) l bl)
  (aF (fun q tm J'=>∃ i k hv l bl,q=el.length - i∧i≤el.length∧k≤i*1000∧r8 tm 2 = .c (.ptr J.aj 0)∧r8 tm 3 = .c (.ptr (J.aj+1) 0)∧r8 tm 5 = .c (.ptr (J.aj+1+1) 0)∧r8 tm 6 = .c (.int .i64 (.ofNat k))∧r8 tm 7 = .c (.int .i64 hv)∧r8 tm 20 = .c (.int .i64 (.ofNat el.length))∧r8 tm 21 = .c (.int .i64 (.ofNat i))
   ∧ WU el dl i 0 hv l∧LI J J' ev dv d0 d1 d2 (amt d2) l bl) el.length ?_ ?_) ?_
 ·refine ⟨0,0,0,[],0,jb,jb,jb,?_⟩
  simp (disch:=try exact jz) only [go_sem,z3,true_and]
  refine ⟨rfl,WU.nil,?_,?_,?_,fun h=>by simp at h,Nat.zero_le _,jp,?_⟩
  ·simp (disch:=omega) only [ak,ay]
  ·simp (disch:=omega) only [ak,ay]
  ·rw [ay];rfl
  ·exact fr
 ·rintro q tm J' ⟨i,k,hv,l,bl,rfl,hi,hk,t2,t3,t5,t6,t7,t20,t21,hG,hL⟩
  simp (disch:=try exact jz) only [go_sem,z3,t20,t21,aA]
  refine aH (fun hlt=>?_) (fun hlt=>?_)
  ·obtain ⟨b,o,c,rfl,C,A,agX,vk,hC,-⟩:=hE.at hlt
   have vk:=hL.fr.ld hW vk
   have aBl:=hcl i hlt
   generalize hei:(ix el i).c=cl at *
   have Jy:=hC.len
   have aC2:=hC.kn
   have q1:=hL.q1
   have q2:=hL.q2
   simp (disch:=try exact jz) only [go_sem,z3,t2,t21,au q1,hek,vk,Jy]
   refine aF (fun q tm σ3=>∃ j k hv l bl,q=cl.length - j∧j≤cl.length∧k≤i*1000+j∧r8 tm 2 = .c (.ptr J.aj 0)∧r8 tm 3 = .c (.ptr (J.aj+1) 0)∧r8 tm 5 = .c (.ptr (J.aj+1+1) 0)∧r8 tm 6 = .c (.int .i64 (.ofNat k))∧r8 tm 7 = .c (.int .i64 hv)∧r8 tm 8 = .c (.int .i64 (.ofNat i))∧r8 tm 20 = .c (.int .i64 (.ofNat el.length))∧r8 tm 21 = .c (.int .i64 (.ofNat i))
    ∧ r8 tm 29 = .c C∧r8 tm 30 = .c (.int .i64 (.ofNat cl.length))∧r8 tm 31 = .c (.int .i64 (.ofNat j))∧WU el dl i j hv l∧LI J σ3 (.sl b o el.length c) dv d0 d1 d2 (amt d2) l bl) cl.length ?_ ?_
   ·refine ⟨0,k,hv,l,bl,jb,jb,jb,?_⟩
    simp (disch:=try exact jz) only [go_sem,z3,t2,t3,t5,t6,t7,t20,t21,true_and]
    exact ⟨hG,hL⟩
   ·rintro q tm3 σ3 ⟨j,k3,hv3,l3,bl3,rfl,hj,hk3,t2,t3,t5,t6,t7,t8,t20,t21,t29,t30,t31,hG3,hL3⟩
    simp (disch:=try exact jz) only [go_sem,z3,t30,t31,aA]
    refine aH (fun hlt3=>?_) (fun hlt3=>?_)
    ·obtain ⟨b5,o5,c5,e5,-,bC⟩:=hC.pos jb
     have bC:=hL3.fr.ld hW (bC j hlt3)
     unfold X8 at bC
     have q1:=hL3.q1
     have q2:=hL3.q2
     have hn3:=hL3.nx
     have hle3:=hL3.fr.le
     rw [e5] at t29
     simp (disch:=try exact jz) only [go_sem,z3,t2,t8,t29,t31,bC,au q1,hek,hdk]
     refine aC.st (Fr σ3) (by have hF:=Fr.refl hL3.fr.wf;exact fr) fun hF3=>?_
     refine (apk hF3.wf dl ((hD.fr hW hL3.fr).fr hL3.fr.wf hF3) hl hek (.ofNat i) (.ofNat j)).mono ?_
     rintro _ σ4 ⟨⟨fb,rfl,hNT⟩,hf4⟩
     have gB:=hF3.trans hf4
     have hL4:=hL3.step gB
     have pK:=gB.le
     have hn4:=hL4.nx
     have b4:=hL4.b
     have q2:=hL4.q2
     have hll:=hL4.n
     have aev:=EM l3 bl3
     have ZH:=qO l3 bl3
     have htb:σ4.h σ3.aj=some ⟨[.int .i64 (ix cl j).h,.int .i64 (ix cl j).r,.bool (ix cl j).a.n,.str (ix cl j).a.s,.str (ix cl j).a.d],none⟩:=hf4.get hF3.wf (ay _ _ _)
     have hr0:=vM d0 (2 ^ min (k3%16) 64) 9223372036854775807 jb
     have hk5:k3≤2000000:=by
      have:=Nat.mul_le_mul_right 1000 (show i≤1000 by omega)
      omega
     have aC3:k3%16<16:=Nat.mod_lt _ jj
     cases fb
     ·simp (disch:=try exact jz) only [go_sem,z3,t5,t8,au b4,aev,ZH]
      refine aH (fun hl4=>?_) (fun hl4=>?_)
      ·simp (disch:=try exact jz) only [go_sem,z3,t2,t3,t5,t6,t7,t8,t20,t21,t30,t31]
       exact ⟨cl.length - (j+1),jb,j+1,k3,hv3,l3,bl3,rfl,jb,jb,rfl,rfl,by rw [e5];exact t29,rfl,hG3.next,hL4⟩
      ·simp (disch:=try exact jz) only [go_sem,z3,t3,t6,au q2]
       have aC4:=hL4.fr
       have hl5:l3.length≤3:=by first|omega|exact Nat.le_of_lt_succ (Nat.lt_of_not_le hl4)
       have ayS:σ3.aj≤σ4.aj:=gB.le
       refine Jf (fun hw=>?_) (fun hw=>?_)
       ·by_cases hz:l3.length=0
        ·have he:kM l3 bl3 = .aO:=by unfold kM;rw [if_pos hz]
         simp (disch:=try exact jz) only [go_sem,z3,t2,t3,t5,t8,t20,t21,t30,t31,hw,au b4,b4,he,au htb]
         refine ⟨cl.length - (j+1),jb,j+1,k3+1,_,l3 ++ [⟨.ofNat i,.ofNat j⟩],_,rfl,jb,jb,rfl,rfl,by rw [e5];exact t29,rfl,hG3.push hlt hei hlt3 (hNT rfl) (.inl (List.eq_nil_of_length_eq_zero hz)) rfl,LI.push (nx:=σ4.aj+1) hL4 jb ?_ ?_ ?_ ?_ ?_ ?_⟩
         ·rw [ay,hz]
         ·rw [ak _ _ _ _ jb,ay,hz];rfl
         ·intro b9 h9;simp (disch:=omega) only [ak]
         ·omega
         ·omega
         ·exact fr
        ·have he:=jg (l:=l3) jb bl3
         obtain ⟨k1,k2,k9⟩:=hL4.lb jb
         have hpl:=auR l3
         have hpt:=apl l3
         have hz2 : ¬ (0=l3.length):=jb
         simp (disch:=try exact jz) only [go_sem,z3,t5,t7,hw,au b4,he,au htb,hz]
         refine aH (fun hh=>?_) (fun hh=>?_)
         ·simp (disch:=try exact jz) only [go_sem,z3,t2,t3,t5,t8,t20,t21,t30,t31,au b4,b4,he,au htb,k1,hpt]
          refine ⟨cl.length - (j+1),jb,j+1,k3+1,_,l3 ++ [⟨.ofNat i,.ofNat j⟩],_,rfl,jb,jb,rfl,rfl,by rw [e5];exact t29,rfl,hG3.push hlt hei hlt3 (hNT rfl) (.inr (by first|exact hh|exact hh.symm)) rfl,LI.push (nx:=σ4.aj+1) hL4 jb ?_ ?_ ?_ ?_ ?_ ?_⟩
          ·rw [ay]
          ·rw [ak _ _ _ _ jb,ay];rfl
          ·intro b9 h9;simp (disch:=omega) only [ak,eY]
          ·omega
          ·omega
          ·exact fr
         ·simp (disch:=try exact jz) only [go_sem,z3,t2,t3,t5,t7,t8,t20,t21,t30,t31]
          exact ⟨cl.length - (j+1),jb,j+1,k3+1,hv3,l3,bl3,rfl,jb,jb,rfl,rfl,by rw [e5];exact t29,rfl,hG3.next,hL4⟩
       ·simp (disch:=try exact jz) only [go_sem,z3,t2,t3,t5,t7,t8,t20,t21,t30,t31,hw]
        exact ⟨cl.length - (j+1),jb,j+1,k3+1,hv3,l3,bl3,rfl,jb,jb,rfl,rfl,by rw [e5];exact t29,rfl,hG3.next,hL4⟩
     ·simp (disch:=try exact jz) only [go_sem,z3,t2,t3,t5,t6,t7,t8,t20,t21,t30,t31]
      exact ⟨cl.length - (j+1),jb,j+1,k3,hv3,l3,bl3,rfl,jb,jb,rfl,rfl,by rw [e5];exact t29,rfl,hG3.next,hL4⟩
    ·have:j=cl.length:=jb
     subst this
     simp (disch:=try exact jz) only [go_sem,z3,t2,t3,t5,t6,t7,t20,t21]
     exact ⟨el.length - (i+1),jb,i+1,k3,hv3,l3,bl3,rfl,jb,jb,rfl,rfl,rfl,hG3.row,hL3⟩
  ·have hie:i=el.length:=jb
   simp (disch:=try exact jz) only [go_sem,z3,true_and]
   exact ⟨l,bl,t2,t3,t5,⟨hv,hie ▸ hG⟩,hL⟩
 ·rintro _ tm J' ⟨rfl,l,bl,t2,t3,t5,⟨hvf,hG⟩,hL⟩
  show bM EN (.seq _ _) _ _ _
  refine aes (fun tm σ3=>∃ l bl,r8 tm 2 = .c (.ptr J.aj 0)∧r8 tm 5 = .c (.ptr (J.aj+1+1) 0)∧LGf el dl l∧LI J σ3 ev dv d0 d1 d2 (amt d2) l bl) ?_ ?_
  ·have q2:=hL.q2
   have hF:=hL.fr
   have b5:=hL.b
   have hn:=hL.n
   have aev:=EM l bl
   have ZH:=qO l bl
   simp (disch:=try exact jz) only [go_sem,z3,t3,au q2]
   refine aH (fun hr=>?_) (fun hr=>?_)
   ·by_cases hz:l.length=0
    ·simp (disch:=try exact jz) only [go_sem,z3,t5,au b5,aev,ZH,hz,ayQ]
     refine aF (fun q tm σ3=>q=0∧σ3=J'∧r8 tm 2 = .c (.ptr J.aj 0)∧r8 tm 5 = .c (.ptr (J.aj+1+1) 0)∧r8 tm 12 = .c (.int .i64 (.ofNat 0))∧r8 tm 13 = .c (.int .i64 (.negSucc 0))) 0 ?_ ?_
     ·simp (disch:=try exact jz) only [go_sem,z3,true_and]
      exact ⟨t2,t5⟩
     ·rintro q tm σ3 ⟨rfl,rfl,t2,t5,t12,t13⟩
      simp (disch:=try exact jz) only [go_sem,z3,t2,t5,t12,t13,aBk,true_and]
      exact ⟨l,bl,⟨hvf,hG⟩,hL⟩
    ·have h11:1≤l.length:=jb
     simp (disch:=try exact jz) only [go_sem,z3,t5,au b5,aev,ZH]
     refine aF (fun q tm σ3=>∃ i j l3,q=l.length - i∧i≤l.length∧j<l.length∧l3.length=l.length∧r8 tm 2 = .c (.ptr J.aj 0)∧r8 tm 5 = .c (.ptr (J.aj+1+1) 0)∧r8 tm 12 = .c (.int .i64 (.ofNat i))∧r8 tm 13 = .c (.int .i64 (.ofNat j))∧WU el dl el.length 0 hvf l3∧LI J σ3 ev dv d0 d1 d2 (amt d2) l3 bl) l.length ?_ ?_
     ·refine ⟨0,l.length - 1,l,jb,jb,jb,rfl,?_⟩
      simp (disch:=try exact jz) only [go_sem,z3,t2,t5,true_and]
      exact ⟨hG,hL⟩
     ·rintro q tm σ3 ⟨i,j,l3,rfl,hi,hj,hl3,t2,t5,t12,t13,hG3,hL3⟩
      simp (disch:=try exact jz) only [go_sem,z3,t12,t13,aA]
      refine aH (fun hij=>?_) (fun hij=>?_)
      ·have b5:=hL3.b
       have he:=jg (l:=l3) jb bl
       rw [he] at b5
       obtain ⟨k1,k2,k9⟩:=hL3.lb jb
       have hn3:=hL3.nx
       have hF3:=hL3.fr
       have hle:=hF3.le
       rw [hl3] at b5 k1
       have r1:=arL (n:=l.length) (i:=i) l3 jb
       have r2:=arL (n:=l.length) (i:=j) l3 hj
       have w1:=arK (n:=l.length) (i:=i) l3 hl3 (ix l3 j) jb
       have w2:=arK (n:=l.length) (i:=j) (l3.set i (ix l3 j)) (by simp [hl3]) (ix l3 i) hj
       simp (disch:=try exact jz) only [go_sem,z3,t2,t5,t12,t13,au b5,au k1,aG k1,r1,r2,w1,w2]
       refine ⟨l.length - (i+1),jb,i+1,j - 1,(l3.set i (ix l3 j)).set j (ix l3 i),rfl,jb,jb,by simp [hl3],rfl,rfl,hG3.perm (swap_perm jb jb),hL3.set jb kc ?_ ?_ ?_⟩
       ·rw [ay,hl3]
       ·intro b9 h9
        rw [ak _ _ _ _ h9,ak _ _ _ _ h9]
       ·exact fr
      ·simp (disch:=try exact jz) only [go_sem,z3,t2,t5,true_and]
       exact ⟨l3,bl,⟨hvf,hG3⟩,hL3⟩
   ·simp (disch:=try exact jz) only [go_sem,z3,true_and]
    exact ⟨l,bl,t2,t5,⟨hvf,hG⟩,hL⟩
  ·rintro tm σ3 ⟨l,bl,t2,t5,hG,hL⟩
   have hF:=hL.fr
   have hle:=hL.fr.le
   have hn:=hL.nx
   have b5:=hL.b
   have q1:=hL.q1
   have ZH:=qO l bl
   obtain ⟨T,hT1,hT2⟩:=hD
   have hdl:=hl.1
   have hfin:=fun (h' : Tr Bk) (n' rb:Nat)=>apm (h':=h') (n':=n') (rb:=rb) hW hT2 hT1 hL hG
   by_cases h0:dl.length=0
   ·have hA0:dv = .aO∨∃ b o c,dv = .sl b o 0 c:=by
     rcases hT1 with ⟨-,e⟩|⟨b,o,c,e,-⟩
     ·exact .inl e
     ·exact .inr ⟨b,o,c,by rw [e,h0]⟩
    have hend : ∀ h' : Tr Bk,h' = hset (hset σ3.h σ3.aj ⟨[.bool (rn (amt d2)),.str (rs (amt d2)),.str (rd (amt d2)),kM l bl],none⟩) (σ3.aj+1) ⟨[.bool (rn (amt d2)),.str (rs (amt d2)),.str (rd (amt d2)),kM l bl],some (4,96)⟩→(∃ rv d,V.c (.sl (σ3.aj+1) 0 1 .opn) = .c rv∧jY (fun b=>p b∨J.aj≤b∧b<σ3.aj+1+1) h' rv (dl ++ [d])∧d.l.length≤4∧d.w=mV (amt d2)∧LGf el dl d.l)∧Fr J ⟨h',σ3.aj+1+1⟩:=fun h' e=>by
     subst e
     have:=hfin (hset (hset σ3.h σ3.aj ⟨[.bool (rn (amt d2)),.str (rs (amt d2)),.str (rd (amt d2)),kM l bl],none⟩) (σ3.aj+1) ⟨[.bool (rn (amt d2)),.str (rs (amt d2)),.str (rd (amt d2)),kM l bl],some (4,96)⟩) (σ3.aj+1+1) (σ3.aj+1) (by rw [ay,h0];rfl) (fun b9 h9=>by simp (disch:=omega) only [ak]) jb jb (fr)
     rw [h0] at this
     exact this
    rcases hA0 with rfl|⟨b,o,c,rfl⟩
    ·simp (disch:=try exact jz) only [go_sem,z3,t2,t5,au q1,au b5,ZH]
     exact hend _ rfl
    ·simp (disch:=try exact jz) only [go_sem,z3,t2,t5,au q1,au b5,ZH]
     exact hend _ rfl
   ·obtain ⟨b,o,c,rfl,-,hld⟩:=hT1.pos jb
    have hbl:=hW.dh (hld 0 jb)
    obtain ⟨kk,e1,e2,e3,e4,e5⟩:=UG jb fun i hi=>hF.ld hW (hld i hi)
    have hct:=jO (e:=4) (n:=dl.length) (G:=fun i=>[B.bool (ix dl i).w.n,.str (ix dl i).w.s,.str (ix dl i).w.d,T i]) fun _=>rfl
    have hcn:dl.length*4≤(aY dl.length fun i=>[B.bool (ix dl i).w.n,.str (ix dl i).w.s,.str (ix dl i).w.d,T i]).length:=by rw [e4];exact jp
    simp (disch:=try exact jz) only [go_sem,z3,t2,t5,au q1,au b5,ZH,e1,e3,e4,e5,e2,hct]
    refine hfin _ _ _ ?_ ?_ jb jb ?_
    ·rw [ay,jv]
     congr 2
     refine bf fun j hj=>?_
     unfold iC
     by_cases e:j=dl.length
     ·rw [if_pos e,if_neg jb]
     ·rw [if_neg e,if_pos jb]
    ·intro b9 h9
     simp (disch:=omega) only [ak,eY]
    ·exact fr
end Go.Proofs.Xe
