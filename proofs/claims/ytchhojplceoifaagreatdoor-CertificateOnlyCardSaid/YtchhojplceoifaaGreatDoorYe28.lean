import Derived.Test.YtchhojplceoifaaGreatDoorYe27
import Derived.Test.YtchhojplceoifaaGreatDoorYe26
set_option linter.all false
set_option maxRecDepth 100000
set_option maxHeartbeats 8000000
namespace Go.Proofs.Xe
open Go.RowKit Go.Proofs.Ins
def kN.lt{σ:St}(hW:WF σ){p:Nat->Prop}{v:B}{l:List yB}(hl:kN p σ.h v l):kN (Lt σ.aj) σ.h v l:=by obtain⟨L,h3,h4⟩:=hl;exact⟨L,h3.lt hW,λi hi=>(h4 i hi).lt hW⟩
theorem kN.fr{σ σ':St}(hW:WF σ)(hf:Fr σ σ'){p:Nat->Prop}{v:B}{l:List yB}(hl:kN p σ.h v l):kN (Lt σ.aj) σ'.h v l:=(hl.lt hW).keep hf.lt λ_ h=>h
def asG(dl:List yB)(i c:Int):Prop:=∀j,j<dl.length->∀t,t<(ix dl j).l.length->¬((ix (ix dl j).l t).e=i/\(ix (ix dl j).l t).k=c)
def avZ(dl:List yB):Prop:=dl.length<=1000/\∀j,j<dl.length->(ix dl j).l.length<=1000
def ank{σ:St}(hW:WF σ){p:Nat->Prop}{ev dv:B}(dl:List yB)(hD:kN p σ.h dv dl)(hl:avZ dl)(h1:ev.kn=true)(i c:Int):
  aC EN 81 [.agg [ev,dv],.c (.int .i64 i),.c (.int .i64 c)] σ λr σ'=>(∃b,r=.c (.bool b)/\(b=false->asG dl i c))/\Fr σ σ':=by
 refine aO (F6.o _ _) F6.h ?_
 unfold F6
 dsimp only
 obtain⟨T,hT,hT2⟩:=hD
 have hlen:=hT.len
 have hkn:=hT.kn
 simp(disch:=try exact jz) only[go_sem,z3,hkn,hlen,h1]
 refine aF (λq tm σ'=>∃j,q=dl.length-j/\j<=dl.length/\Tr.ah tm 1=.c (.int .i64 i)/\Tr.ah tm 2=.c (.int .i64 c)/\Tr.ah tm 12=.c dv/\Tr.ah tm 13=.c (.int .i64 (.ofNat dl.length))/\Tr.ah tm 14=.c (.int .i64 (.ofNat j))/\(∀j',j'<j->∀t,t<(ix dl j').l.length->¬((ix (ix dl j').l t).e=i/\(ix (ix dl j').l t).k=c))/\Fr σ σ') dl.length ?_ ?_
 .refine⟨0,jb,jb,?_⟩
  simp(disch:=try exact jz) only[go_sem,z3,am]
  exact⟨λj' h=>jb,fr⟩
 .rintro q tm σ' ⟨j,rfl,hj,t1,t2,t12,t13,t14,hN,hf⟩
  have hle:=hf.le
  have hl0:=hl.1
  simp(disch:=try exact jz) only[go_sem,z3,t1,t2,t12,t13,t14,aG]
  refine aH (λhlt=>?_) (λhlt=>?_)
  .obtain⟨b,o,cc,rfl,-,hld⟩:=hT.pos jb
   have hld:=hf.ld hW (hld j hlt)
   have hTj:=hT2 j hlt
   have hlj:=hl.2 j hlt
   generalize hag:ix dl j=ag at*
   have aiy:=hTj.len
   have axZ:=hTj.kn
   simp(disch:=try exact jz) only[go_sem,z3,t1,t2,t12,t13,t14,hld,axZ,aiy]
   refine aF (λq tm σ3=>∃t,q=ag.l.length-t/\t<=ag.l.length/\Tr.ah tm 1=.c (.int .i64 i)/\Tr.ah tm 2=.c (.int .i64 c)/\Tr.ah tm 12=.c (.sl b o dl.length cc)/\Tr.ah tm 13=.c (.int .i64 (.ofNat dl.length))/\Tr.ah tm 14=.c (.int .i64 (.ofNat j))
    /\Tr.ah tm 19=.c (T j)/\Tr.ah tm 20=.c (.int .i64 (.ofNat ag.l.length))/\Tr.ah tm 21=.c (.int .i64 (.ofNat t))/\(∀t',t'<t->¬((ix ag.l t').e=i/\(ix ag.l t').k=c))/\Fr σ σ3) ag.l.length ?_ ?_
   .refine⟨0,jb,jb,?_⟩
    simp(disch:=try exact jz) only[go_sem,z3,t1,t2,t12,t13,t14,am]
    exact⟨λt' h=>jb,fr⟩
   .rintro q tm3 σ3 ⟨t,rfl,ht,t1,t2,t12,t13,t14,t19,t20,t21,hM,hf3⟩
    have hle3:=hf3.le
    simp(disch:=try exact jz) only[go_sem,z3,t1,t2,t12,t13,t14,t19,t20,t21,aG]
    refine aH (λhlt3=>?_) (λhlt3=>?_)
    .obtain⟨b3,o3,c3,e3,-,uU⟩:=hTj.pos jb
     have uU:=hf3.ld hW (uU t hlt3)
     unfold Ll at uU
     rw[e3]at t19
     simp(disch:=try exact jz) only[go_sem,z3,t1,t2,t12,t13,t14,t19,t20,t21,uU]
     refine abS (λhq=>?_) (λhq=>?_)
     .simp(disch:=try exact jz) only[go_sem,z3,t1,t2,t12,t13,t14,t19,t20,t21,hq]
      refine aH (λhq2=>?_) (λhq2=>?_)
      .simp(disch:=try exact jz) only[go_sem,z3,t1]
       exact⟨⟨_,rfl,λh=>by cases h⟩,fr⟩
      .simp(disch:=try exact jz) only[go_sem,z3,t1,t2,t12,t13,t14,t19,t20,t21]
       exact⟨ag.l.length-(t+1),jb,t+1,rfl,jb,by rw[e3],rfl,λt' h'=>by
        by_cases e:t'=t
        .rw[e];exact λh=>hq2 h.2
        .exact hM t' jb,fr⟩
     .simp(disch:=try exact jz) only[go_sem,z3,t1,t2,t12,t13,t14,t19,t20,t21,hq]
      exact⟨ag.l.length-(t+1),jb,t+1,rfl,jb,by rw[e3],rfl,λt' h'=>by
       by_cases e:t'=t
       .rw[e];exact λh=>hq h.1
       .exact hM t' jb,fr⟩
    .have:t=ag.l.length:=jb
     subst this
     simp(disch:=try exact jz) only[go_sem,z3,t1,t2,t12,t13,t14]
     exact⟨dl.length-(j+1),jb,j+1,rfl,jb,rfl,λj' h'=>by
      by_cases e:j'=j
      .rw[e,hag];exact hM
      .exact hN j' jb,hf3⟩
  .have:j=dl.length:=jb
   subst this
   simp(disch:=try exact jz) only[go_sem,z3,t1]
   exact⟨⟨_,rfl,λ_=>hN⟩,hf⟩
structure LI(σ σ':St)(ev dv:B)(d0 d1 d2:Nat)(w:Rat)(l:List Ins.Lg)(bl:Nat):Prop where
 q1:σ'.h σ.aj=some ⟨[ev,dv],none⟩
 q2:σ'.h (σ.aj+1)=some ⟨[.int .u16 (.ofNat d0),.int .u16 (.ofNat d1),.int .u16 (.ofNat d2)],none⟩
 b:σ'.h (σ.aj+1+1)=some ⟨[.bool (rn w),.str (rs w),.str (rd w),lC l bl],none⟩
 lb:0<l.length->σ'.h bl=some ⟨bV l.length (λk=>Ll (ix l k)),some (2,135)⟩/\σ.aj+1+1+1<=bl/\bl<σ'.aj
 n:l.length<=4
 nx:σ.aj+1+1+1<=σ'.aj
 fr:Fr σ σ'
structure Vj(el:List BR)(dl:List yB)(i j:Nat)(hv:Int)(l:List Ins.Lg):Prop where
 r:∀x∈l,∃e k:Nat,x=⟨.ofNat e,.ofNat k⟩/\e<el.length/\k<(ix el e).c.length/\asG dl (.ofNat e) (.ofNat k)/\holdL el x=hv/\(e<i\/e=i/\k<j)
 nd:l.Nodup
def LGf(el:List BR)(dl:List yB)(l:List Ins.Lg):Prop:=∃hv,Vj el dl el.length 0 hv l
section
variable {el:List BR} {dl:List yB} {i j:Nat} {hv hv' : Int} {l:List Ins.Lg}
theorem Vj.nil:Vj el dl i j hv []:=⟨λx hx=>by simp at hx,List.nodup_nil⟩
def Vj.next(h:Vj el dl i j hv l):Vj el dl i (j+1) hv l:=⟨λx hx=>by obtain⟨e,k,h1,h2,h3,h4,h5,h6⟩:=h.r x hx;exact⟨e,k,h1,h2,h3,h4,h5,jb⟩,h.nd⟩
def Vj.row(h:Vj el dl i j hv l):Vj el dl (i+1) 0 hv l:=⟨λx hx=>by obtain⟨e,k,h1,h2,h3,h4,h5,h6⟩:=h.r x hx;exact⟨e,k,h1,h2,h3,h4,h5,jb⟩,h.nd⟩
def Vj.push(h:Vj el dl i j hv l)(hi:i<el.length){cl:List C5}(he:(ix el i).c=cl)(hj:j<cl.length)(hN:asG dl (.ofNat i) (.ofNat j))(hh:l=[]\/hv=hv')(hx:(ix cl j).h=hv'):Vj el dl i (j+1) hv' (l++[⟨.ofNat i,.ofNat j⟩]):=by
 refine⟨λx hm=>?_,?_⟩
 .rcases ck.mp hm with hm|hm
  .obtain⟨e,k,h1,h2,h3,h4,h5,h6⟩:=h.r x hm;rcases hh with hh|hh
   .rw[hh]at hm;cases hm
   .exact⟨e,k,h1,h2,h3,h4,by rw[h5,hh],jb⟩
  .rw[dy]at hm;subst hm;refine⟨i,j,rfl,hi,by rw[he];exact hj,hN,?_,jb⟩;show(ix (ix el i).c j).h=_;rw[he];exact hx
 .rw[gL];refine⟨h.nd,(js.mpr ⟨List.not_mem_nil,List.nodup_nil⟩),λa ha b hb e=>?_⟩;rw[dy]at hb;subst hb;obtain⟨e',k,h1,-,-,-,-,h6⟩:=h.r a ha;rw[e]at h1;have h7:=(Ins.Lg.mk.inj h1).1;have h8:=(Ins.Lg.mk.inj h1).2;have h7:=Int.ofNat.inj h7;have h8:=Int.ofNat.inj h8;omega
def Vj.perm{l':List Ins.Lg}(h:Vj el dl i j hv l)(hp:l'.Perm l):Vj el dl i j hv l':=⟨λx hx=>h.r x (hp.mem_iff.mp hx),hp.nodup_iff.mpr h.nd⟩
def swap_perm{l:List Ins.Lg}{i j:Nat}(hi:i<l.length)(hj:j<l.length):((l.set i (ix l j)).set j (ix l i)).Perm l:=by rw[fE hi,fE hj];exact List.set_set_perm hi hj
end
section
variable {σ σ' : St} {ev dv:B} {d0 d1 d2:Nat} {w:Rat} {l:List Ins.Lg} {bl:Nat}
def LI.step(hL:LI σ σ' ev dv d0 d1 d2 w l bl){σ3:St}(hf:Fr σ' σ3):LI σ σ3 ev dv d0 d1 d2 w l bl:=by
 have hn:=hL.nx;have hle:=hf.le;refine⟨?_,?_,?_,λh0=>?_,hL.n,jb,hL.fr.trans hf⟩
 .rw[hf.old _ jb];exact hL.q1
 .rw[hf.old _ jb];exact hL.q2
 .rw[hf.old _ jb];exact hL.b
 .obtain⟨k1,k2,k3⟩:=hL.lb h0;exact⟨by rw[hf.old _ k3];exact k1,k2,jb⟩
def LI.push(hL:LI σ σ' ev dv d0 d1 d2 w l bl){nx n':Nat}{x:Ins.Lg}{h':Tr Bk}(hl:l.length<=3)(hb:h' (σ.aj+1+1)=some ⟨[.bool (rn w),.str (rs w),.str (rd w),.sl nx 0 (l.length+1) .opn],none⟩)
  (hx:h' nx=some ⟨bV l.length (λk=>Ll (ix l k))++Ll x,some (2,135)⟩) (ho:∀b,b<σ.aj+1+1->h' b=σ'.h b) (hn:σ'.aj<=nx) (hn':nx<n') (hf:Fr σ ⟨h',n'⟩):LI σ ⟨h',n'⟩ ev dv d0 d1 d2 w (l++[x]) nx:=by
 have hn1:=hL.nx
 refine⟨by rw[ho _ jb];exact hL.q1,by rw[ho _ jb];exact hL.q2,?_,λ_=>⟨?_,jb,hn'⟩,by simp;omega,by show _<=n';omega,hf⟩
 .rw[jh kc,aD];exact hb
 .rw[aD,cj]
  show h' nx=_
  rw[hx,kM]
  congr 2
  refine dB λk hk=>?_
  unfold jk
  split
  .next e=>rw[e,gZ]
  .rw[gY _ _ jb]
def LI.set(hL:LI σ σ' ev dv d0 d1 d2 w l bl){h':Tr Bk}{l':List Ins.Lg}(h0:0<l.length)(hl:l'.length=l.length)(hb:h' bl=some ⟨bV l.length (λk=>Ll (ix l' k)),some (2,135)⟩)(ho:∀b,b≠bl->h' b=σ'.h b)(hf:Fr σ ⟨h',σ'.aj⟩):LI σ ⟨h',σ'.aj⟩ ev dv d0 d1 d2 w l' bl:=by have hn1:=hL.nx;obtain⟨k1,k2,k3⟩:=hL.lb h0;refine⟨by rw[ho _ jb];exact hL.q1,by rw[ho _ jb];exact hL.q2,?_,λ_=>⟨by rw[hl];exact hb,k2,k3⟩,by rw[hl];exact hL.n,hL.nx,hf⟩;rw[ho _ jb,hL.b];unfold lC;rw[hl]
def asH(l:List Ins.Lg):l.length*2<=(bV l.length (λk=>Ll (ix l k))).length:=by rw[qU (e:=2) λ_=>rfl];exact jp
def anl(l:List Ins.Lg):(bV l.length (λk=>Ll (ix l k))).take (l.length*2)=bV l.length (λk=>Ll (ix l k)):=Ag λ_=>rfl
def apm{n i:Nat}(l:List Ins.Lg)(hn:l.length=n)(y:Ins.Lg)(hi:i<n):yH (bV n λk=>Ll (ix l k)) (i*2) [.int .i64 y.e,.int .i64 y.k]=some (bV n λk=>Ll (ix (l.set i y) k)):=by
 have:=AV (e:=2) (k:=0) (vs:=Ll y) (G:=λk=>Ll (ix l k)) (λ_=>rfl) hi (by exact cT 2);rw[cF]at this;show yH _ _ (Ll y)=_;rw[this];show some _=some _;congr 1;refine dB λk hk=>?_;unfold jk;rw[show ix (l.set i y) k=if k=i then y else ix l k by
  unfold ix;rw[eV,eV,List.getElem?_set];by_cases e:k=i
  .subst e;rw[ab rfl,ab rfl,ab jb];rfl
  .rw[ae e,ae (Ne.symm e)]]
 split<;>rfl
def apn{n i:Nat}(l:List Ins.Lg)(hi:i<n):zQ (bV n λk=>Ll (ix l k)) (i*2) 2 true=some (.agg [.int .i64 (ix l i).e,.int .i64 (ix l i).k]):=by have:=y8 (e:=2) (k:=0) (m:=2) (G:=λk=>Ll (ix l k)) true (λ_=>rfl) hi jj jj;rw[cF]at this;rw[this];rfl
end
def Dl.at{p:Nat->Prop}{h:Tr Bk}{v:B}{el:List BR}(hE:Dl p h v el){i:Nat}(hi:i<el.length):∃b o c,v=.sl b o el.length c/\∃C A:B,ld h b (o+i*5) 5 true=some (.agg [.bool (ix el i).m.n,.str (ix el i).m.s,.str (ix el i).m.d,C,A])/\ld h b (o+i*5+3) 1 false=some (.c C)/\Ew p h C (ix el i).c/\jq p h A (ix el i).a:=by obtain⟨C,A,h1,h2⟩:=hE;obtain⟨b,o,c,e,-,hld⟩:=h1.pos jb;refine⟨b,o,c,e,C i,A i,hld i hi,?_,h2 i hi⟩;rw[y9 (hld i hi) 3 1 false jj jj];unfold zQ;have:=(h2 i hi).1.kn;simp[this]
def Dl.len{p:Nat->Prop}{h:Tr Bk}{v:B}{l:List BR}(hl:Dl p h v l):lenV (.c v)=some (.c (.int .i64 (.ofNat l.length))):=hl.choose_spec.choose_spec.1.len
def kN.el{p:Nat->Prop}{h:Tr Bk}{v:B}{dl:List yB}(hD:kN p h v dl){i:Nat}(hi:i<dl.length):∃b o c,v=.sl b o dl.length c/\∃T:B,ld h b (o+i*4) 4 true=some (.agg [.bool (ix dl i).w.n,.str (ix dl i).w.s,.str (ix dl i).w.d,T])/\Kr p h T (ix dl i).l:=by obtain⟨L,h1,h2⟩:=hD;obtain⟨b,o,c,e,-,hld⟩:=h1.pos jb;exact⟨b,o,c,e,L i,hld i hi,h2 i hi⟩
def kN.len{p:Nat->Prop}{h:Tr Bk}{v:B}{dl:List yB}(hD:kN p h v dl):lenV (.c v)=some (.c (.int .i64 (.ofNat dl.length))):=hD.choose_spec.1.len
def av1:nN .sub (.c (.int .i64 (.ofNat 0))) (.c (.int .i64 (.ofNat 1)))=some (.c (.int .i64 (.negSucc 0))):=rfl
def ax0:decide (Int.ofNat 0<Int.negSucc 0)=false:=rfl
def anm{σ σ':St}{ev dv:B}{d0 d1 d2:Nat}{w:Rat}{l:List Ins.Lg}{bl:Nat}{dl:List yB}(hW:WF σ){p:Nat->Prop}{T:Nat->B}(hT2:∀j,j<dl.length->Kr p σ.h (T j) (ix dl j).l)(hT1:aY p σ.h 4 dv dl.length (λi=>[.bool (ix dl i).w.n,.str (ix dl i).w.s,.str (ix dl i).w.d,T i]))(hL:LI σ σ' ev dv d0 d1 d2 w l bl){el:List BR}(hG:LGf el dl l)
  {h':Tr Bk}{n' rb:Nat}(hr:h' rb=some ⟨bV (dl.length+1) (λj=>if j<dl.length then [.bool (ix dl j).w.n,.str (ix dl j).w.s,.str (ix dl j).w.d,T j]else [.bool (rn w),.str (rs w),.str (rd w),lC l bl]),some (4,132)⟩) (ho:∀b,b<σ'.aj->h' b=σ'.h b) (hrb:σ'.aj<=rb) (hn:rb<n') (hf:Fr σ ⟨h',n'⟩):
  (∃rv d,V.c (.sl rb 0 (dl.length+1) .opn)=.c rv/\kN (λb=>p b\/σ.aj<=b/\b<n') h' rv (dl++[d])/\d.l.length<=4/\d.w=vY w/\LGf el dl d.l)/\Fr σ ⟨h',n'⟩:=by
 have hle:=hL.fr.le
 have hn1:=hL.nx
 refine⟨⟨_,⟨vY w,l⟩,rfl,⟨λj=>if j<dl.length then T j else lC l bl,?_,λj hj=>?_⟩,hL.n,rfl,hG⟩,hf⟩
 .have:(dl++[(⟨vY w,l⟩:yB)]).length=dl.length+1:=by simp
  rw[this]
  have Y6:∀j,j<dl.length->(T j).kn=true:=λj hj=>(hT2 j hj).kn
  refine(bf (p:=λb=>p b\/σ.aj<=b/\b<n') _ hr rfl (.inr ⟨jb,hn⟩) (λj=>?_) jj λj hj=>?_).congr λj hj=>?_
  .split<;>rfl
  .split
   .next e=>simp only[cW,eA,Y6 j e,AU,FY,eh]
   .simp only[cW,eA,rM,AU,FY,eh]
  .dsimp only
   split
   .next e=>rw[gY _ _ e]
   .next e=>
    obtain rfl:j=dl.length:=jb
    rw[gZ];rfl
 .have hj':j<dl.length+1:=by simpa using hj
  dsimp only
  by_cases e:j<dl.length
  .rw[ab e,gY _ _ e]
   refine(aY.plt hW (hT2 j e)).keep (λb hb=>?_) λb hb=>.inl hb.1
   rw[ho b jb,hL.fr.old b hb.2]
  .rw[ae e]
   obtain rfl:j=dl.length:=jb
   rw[gZ]
   by_cases h0:l.length=0
   .exact .inl ⟨h0,by unfold lC;rw[ab h0]⟩
   .obtain⟨k1,k2,k3⟩:=hL.lb jb
    rw[jh jb]
    exact bf (p:=λb=>p b\/σ.aj<=b/\b<n') _ (by rw[ho _ k3];exact k1) rfl (.inr ⟨jb,jb⟩) (λ_=>rfl) jj λ_ _=>rfl
def av2{σ:St}(hW:WF σ){p p':Nat->Prop}{ev dv:B}(el:List BR)(dl:List yB)(hE:Dl p' σ.h ev el)(hD:kN p σ.h dv dl)(hl:avZ dl)(hel:el.length<=1000)(hcl:∀i,i<el.length->(ix el i).c.length<=1000)
  (d0 d1 d2:Nat) (b0:d0<=65535) (b1:d1<=65535) (b2:d2<=65535):
  aC EN 40 [.agg [ev,dv],.agg [.int .u16 (.ofNat d0),.int .u16 (.ofNat d1),.int .u16 (.ofNat d2)]] σ λr σ'=>(∃rv d,r=.c rv/\kN (λb=>p b\/σ.aj<=b/\b<σ'.aj) σ'.h rv (dl++[d])/\d.l.length<=4/\d.w=vY (amt d2)/\LGf el dl d.l)/\Fr σ σ':=by
 refine aO (N7.o _ _) N7.h ?_
 unfold N7
 dsimp only
 have hek:=hE.kn
 have hdk:=hD.kn
 have hlenE:=hE.len
 simp(disch:=try exact jz) only[go_sem,z3,hek,hdk,hlenE]
 refine bK.mono (Q:=λe tm σ'=>e=.exit 0/\∃l bl,Tr.ah tm 2=.c (.ptr σ.aj 0)/\Tr.ah tm 3=.c (.ptr (σ.aj+1) 0)/\Tr.ah tm 5=.c (.ptr (σ.aj+1+1) 0)/\LGf el dl l/\LI σ σ' ev dv d0 d1 d2 (amt d2) l bl)
  (aF (λq tm σ'=>∃i k hv l bl,q=el.length-i/\i<=el.length/\k<=i*1000/\Tr.ah tm 2=.c (.ptr σ.aj 0)/\Tr.ah tm 3=.c (.ptr (σ.aj+1) 0)/\Tr.ah tm 5=.c (.ptr (σ.aj+1+1) 0)/\Tr.ah tm 6=.c (.int .i64 (.ofNat k))/\Tr.ah tm 7=.c (.int .i64 hv)/\Tr.ah tm 20=.c (.int .i64 (.ofNat el.length))/\Tr.ah tm 21=.c (.int .i64 (.ofNat i))
   /\Vj el dl i 0 hv l/\LI σ σ' ev dv d0 d1 d2 (amt d2) l bl) el.length ?_ ?_) ?_
 .refine⟨0,0,0,[],0,jb,jb,jb,?_⟩
  simp(disch:=try exact jz) only[go_sem,z3,am]
  refine⟨rfl,Vj.nil,?_,?_,?_,λh=>by simp at h,bp _,jp,?_⟩
  .simp(disch:=omega) only[au,aA]
  .simp(disch:=omega) only[au,aA]
  .rw[aA];rfl
  .exact fr
 .rintro q tm σ' ⟨i,k,hv,l,bl,rfl,hi,hk,t2,t3,t5,t6,t7,t20,t21,hG,hL⟩
  simp(disch:=try exact jz) only[go_sem,z3,t2,t3,t5,t6,t7,t20,t21,aG]
  refine aH (λhlt=>?_) (λhlt=>?_)
  .obtain⟨b,o,c,rfl,C,A,aeU,uU,hC,-⟩:=hE.at hlt
   have uU:=hL.fr.ld hW uU
   have azo:=hcl i hlt
   generalize hei:(ix el i).c=cl at*
   have X7:=hC.len
   have azp:=hC.kn
   have q1:=hL.q1
   have q2:=hL.q2
   simp(disch:=try exact jz) only[go_sem,z3,t2,t3,t5,t6,t7,t20,t21,ak q1,hek,hdk,uU,X7]
   refine aF (λq tm σ3=>∃j k hv l bl,q=cl.length-j/\j<=cl.length/\k<=i*1000+j/\Tr.ah tm 2=.c (.ptr σ.aj 0)/\Tr.ah tm 3=.c (.ptr (σ.aj+1) 0)/\Tr.ah tm 5=.c (.ptr (σ.aj+1+1) 0)/\Tr.ah tm 6=.c (.int .i64 (.ofNat k))/\Tr.ah tm 7=.c (.int .i64 hv)/\Tr.ah tm 8=.c (.int .i64 (.ofNat i))/\Tr.ah tm 20=.c (.int .i64 (.ofNat el.length))/\Tr.ah tm 21=.c (.int .i64 (.ofNat i))
    /\Tr.ah tm 29=.c C/\Tr.ah tm 30=.c (.int .i64 (.ofNat cl.length))/\Tr.ah tm 31=.c (.int .i64 (.ofNat j))/\Vj el dl i j hv l/\LI σ σ3 (.sl b o el.length c) dv d0 d1 d2 (amt d2) l bl) cl.length ?_ ?_
   .refine⟨0,k,hv,l,bl,jb,jb,jb,?_⟩
    simp(disch:=try exact jz) only[go_sem,z3,t2,t3,t5,t6,t7,t20,t21,am]
    exact⟨hG,hL⟩
   .rintro q tm3 σ3 ⟨j,k3,hv3,l3,bl3,rfl,hj,hk3,t2,t3,t5,t6,t7,t8,t20,t21,t29,t30,t31,hG3,hL3⟩
    simp(disch:=try exact jz) only[go_sem,z3,t2,t3,t5,t6,t7,t8,t20,t21,t29,t30,t31,aG]
    refine aH (λhlt3=>?_) (λhlt3=>?_)
    .obtain⟨b5,o5,c5,e5,-,bP⟩:=hC.pos jb
     have bP:=hL3.fr.ld hW (bP j hlt3)
     unfold c5B at bP
     have q1:=hL3.q1
     have q2:=hL3.q2
     have hn3:=hL3.nx
     have hle3:=hL3.fr.le
     rw[e5]at t29
     simp(disch:=try exact jz) only[go_sem,z3,t2,t3,t5,t6,t7,t8,t20,t21,t29,t30,t31,bP,ak q1,hek,hdk]
     refine aC.st (Fr σ3) (by have hF:=Fr.refl hL3.fr.wf;exact fr) λhF3=>?_
     refine(ank hF3.wf dl ((hD.fr hW hL3.fr).fr hL3.fr.wf hF3) hl hek (.ofNat i) (.ofNat j)).mono ?_
     rintro _ σ4 ⟨⟨fb,rfl,hNT⟩,hf4⟩
     have nX:=hF3.trans hf4
     have hL4:=hL3.step nX
     have uo:=nX.le
     have hn4:=hL4.nx
     have b4:=hL4.b
     have q2:=hL4.q2
     have hll:=hL4.n
     have acW:=Iz l3 bl3
     have Yc:=rM l3 bl3
     have htb:σ4.h σ3.aj=some ⟨[.int .i64 (ix cl j).h,.int .i64 (ix cl j).r,.bool (ix cl j).a.n,.str (ix cl j).a.s,.str (ix cl j).a.d],none⟩:=hf4.get hF3.wf (aA _ _ _)
     have hr0:=wJ d0 (2^min (k3%16) 64) 9223372036854775807 jb
     have hk5:k3<=2000000:=by have:=bw 1000 (show i<=1000 by omega);omega
     have azq:k3%16<16:=df _ jj
     cases fb
     .simp(disch:=try exact jz) only[go_sem,z3,t2,t3,t5,t6,t7,t8,t20,t21,t30,t31,ak b4,acW,Yc]
      refine aH (λhl4=>?_) (λhl4=>?_)
      .simp(disch:=try exact jz) only[go_sem,z3,t2,t3,t5,t6,t7,t8,t20,t21,t30,t31]
       exact⟨cl.length-(j+1),jb,j+1,k3,hv3,l3,bl3,rfl,jb,jb,rfl,rfl,by rw[e5];exact t29,rfl,hG3.next,hL4⟩
      .simp(disch:=try exact jz) only[go_sem,z3,t2,t3,t5,t6,t7,t8,t20,t21,t30,t31,ak q2]
       have azr:=hL4.fr
       have hl5:l3.length<=3:=by have h9:¬((4:Nat):Int)<=(l3.length:Int):=hl4;omega
       have ay1:σ3.aj<=σ4.aj:=nX.le
       refine abS (λhw=>?_) (λhw=>?_)
       .by_cases hz:l3.length=0
        .have he:lC l3 bl3=.aX:=by unfold lC;rw[ab hz]
         simp(disch:=try exact jz) only[go_sem,z3,t2,t3,t5,t6,t7,t8,t20,t21,t30,t31,hw,ak b4,b4,he,ak htb]
         refine⟨cl.length-(j+1),jb,j+1,k3+1,_,l3++[⟨.ofNat i,.ofNat j⟩],_,rfl,jb,jb,rfl,rfl,by rw[e5];exact t29,rfl,hG3.push hlt hei hlt3 (hNT rfl) (.inl (fo hz)) rfl,LI.push (nx:=σ4.aj+1) hL4 jb ?_ ?_ ?_ ?_ ?_ ?_⟩
         .rw[aA,hz]
         .rw[au _ _ _ _ jb,aA,hz];rfl
         .intro b9 h9;simp(disch:=omega) only[au]
         .omega
         .omega
         .exact fr
        .have he:=jh (l:=l3) jb bl3
         obtain⟨k1,k2,k9⟩:=hL4.lb jb
         have hpl:=asH l3
         have hpt:=anl l3
         have hz2:¬(0=l3.length):=jb
         simp(disch:=try exact jz) only[go_sem,z3,t2,t3,t5,t6,t7,t8,t20,t21,t30,t31,hw,ak b4,b4,he,ak htb,hz,k1,hpt]
         refine aH (λhh=>?_) (λhh=>?_)
         .simp(disch:=try exact jz) only[go_sem,z3,t2,t3,t5,t6,t7,t8,t20,t21,t30,t31,hw,ak b4,b4,he,ak htb,hz,k1,hpt]
          refine⟨cl.length-(j+1),jb,j+1,k3+1,_,l3++[⟨.ofNat i,.ofNat j⟩],_,rfl,jb,jb,rfl,rfl,by rw[e5];exact t29,rfl,hG3.push hlt hei hlt3 (hNT rfl) (.inr (by first|exact hh|exact hh.symm)) rfl,LI.push (nx:=σ4.aj+1) hL4 jb ?_ ?_ ?_ ?_ ?_ ?_⟩
          .rw[aA]
          .rw[au _ _ _ _ jb,aA];rfl
          .intro b9 h9;simp(disch:=omega) only[au,iH]
          .omega
          .omega
          .exact fr
         .simp(disch:=try exact jz) only[go_sem,z3,t2,t3,t5,t6,t7,t8,t20,t21,t30,t31,hw]
          exact⟨cl.length-(j+1),jb,j+1,k3+1,hv3,l3,bl3,rfl,jb,jb,rfl,rfl,by rw[e5];exact t29,rfl,hG3.next,hL4⟩
       .simp(disch:=try exact jz) only[go_sem,z3,t2,t3,t5,t6,t7,t8,t20,t21,t30,t31,hw]
        exact⟨cl.length-(j+1),jb,j+1,k3+1,hv3,l3,bl3,rfl,jb,jb,rfl,rfl,by rw[e5];exact t29,rfl,hG3.next,hL4⟩
     .simp(disch:=try exact jz) only[go_sem,z3,t2,t3,t5,t6,t7,t8,t20,t21,t30,t31]
      exact⟨cl.length-(j+1),jb,j+1,k3,hv3,l3,bl3,rfl,jb,jb,rfl,rfl,by rw[e5];exact t29,rfl,hG3.next,hL4⟩
    .have:j=cl.length:=jb
     subst this
     simp(disch:=try exact jz) only[go_sem,z3,t2,t3,t5,t6,t7,t8,t20,t21,t29,t30,t31]
     exact⟨el.length-(i+1),jb,i+1,k3,hv3,l3,bl3,rfl,jb,jb,rfl,rfl,rfl,hG3.row,hL3⟩
  .have hie:i=el.length:=jb
   simp(disch:=try exact jz) only[go_sem,z3,am]
   exact⟨l,bl,t2,t3,t5,⟨hv,hie▸hG⟩,hL⟩
 .rintro _ tm σ' ⟨rfl,l,bl,t2,t3,t5,⟨hvf,hG⟩,hL⟩
  show bK EN (.seq _ _) _ _ _
  refine acL (λtm σ3=>∃l bl,Tr.ah tm 2=.c (.ptr σ.aj 0)/\Tr.ah tm 5=.c (.ptr (σ.aj+1+1) 0)/\LGf el dl l/\LI σ σ3 ev dv d0 d1 d2 (amt d2) l bl) ?_ ?_
  .have q2:=hL.q2
   have hF:=hL.fr
   have b5:=hL.b
   have hn:=hL.n
   have acW:=Iz l bl
   have Yc:=rM l bl
   simp(disch:=try exact jz) only[go_sem,z3,t2,t3,t5,ak q2]
   refine aH (λhr=>?_) (λhr=>?_)
   .by_cases hz:l.length=0
    .simp(disch:=try exact jz) only[go_sem,z3,t2,t3,t5,ak b5,acW,Yc,hz,av1]
     refine aF (λq tm σ3=>q=0/\σ3=σ'/\Tr.ah tm 2=.c (.ptr σ.aj 0)/\Tr.ah tm 5=.c (.ptr (σ.aj+1+1) 0)/\Tr.ah tm 12=.c (.int .i64 (.ofNat 0))/\Tr.ah tm 13=.c (.int .i64 (.negSucc 0))) 0 ?_ ?_
     .simp(disch:=try exact jz) only[go_sem,z3,am]
      exact⟨t2,t5⟩
     .rintro q tm σ3 ⟨rfl,rfl,t2,t5,t12,t13⟩
      simp(disch:=try exact jz) only[go_sem,z3,t2,t5,t12,t13,ax0,am]
      exact⟨l,bl,⟨hvf,hG⟩,hL⟩
    .have h11:1<=l.length:=jb
     simp(disch:=try exact jz) only[go_sem,z3,t2,t3,t5,ak b5,acW,Yc]
     refine aF (λq tm σ3=>∃i j l3,q=l.length-i/\i<=l.length/\j<l.length/\l3.length=l.length/\Tr.ah tm 2=.c (.ptr σ.aj 0)/\Tr.ah tm 5=.c (.ptr (σ.aj+1+1) 0)/\Tr.ah tm 12=.c (.int .i64 (.ofNat i))/\Tr.ah tm 13=.c (.int .i64 (.ofNat j))/\Vj el dl el.length 0 hvf l3/\LI σ σ3 ev dv d0 d1 d2 (amt d2) l3 bl) l.length ?_ ?_
     .refine⟨0,l.length-1,l,jb,jb,jb,rfl,?_⟩
      simp(disch:=try exact jz) only[go_sem,z3,t2,t5,am]
      exact⟨hG,hL⟩
     .rintro q tm σ3 ⟨i,j,l3,rfl,hi,hj,hl3,t2,t5,t12,t13,hG3,hL3⟩
      simp(disch:=try exact jz) only[go_sem,z3,t2,t5,t12,t13,aG]
      refine aH (λhij=>?_) (λhij=>?_)
      .have b5:=hL3.b
       have he:=jh (l:=l3) jb bl
       rw[he]at b5
       obtain⟨k1,k2,k9⟩:=hL3.lb jb
       have hn3:=hL3.nx
       have hF3:=hL3.fr
       have hle:=hF3.le
       rw[hl3]at b5 k1
       have r1:=apn (n:=l.length) (i:=i) l3 jb
       have r2:=apn (n:=l.length) (i:=j) l3 hj
       have w1:=apm (n:=l.length) (i:=i) l3 hl3 (ix l3 j) jb
       have w2:=apm (n:=l.length) (i:=j) (l3.set i (ix l3 j)) (by simp[hl3]) (ix l3 i) hj
       simp(disch:=try exact jz) only[go_sem,z3,t2,t5,t12,t13,ak b5,ak k1,aI k1,r1,r2,w1,w2]
       refine⟨l.length-(i+1),jb,i+1,j-1,(l3.set i (ix l3 j)).set j (ix l3 i),rfl,jb,jb,by simp[hl3],rfl,rfl,hG3.perm (swap_perm jb jb),hL3.set jb kc ?_ ?_ ?_⟩
       .rw[aA,hl3]
       .intro b9 h9
        rw[au _ _ _ _ h9,au _ _ _ _ h9]
       .exact fr
      .simp(disch:=try exact jz) only[go_sem,z3,t2,t5,t12,t13,am]
       exact⟨l3,bl,⟨hvf,hG3⟩,hL3⟩
   .simp(disch:=try exact jz) only[go_sem,z3,am]
    exact⟨l,bl,t2,t5,⟨hvf,hG⟩,hL⟩
  .rintro tm σ3 ⟨l,bl,t2,t5,hG,hL⟩
   have hF:=hL.fr
   have hle:=hL.fr.le
   have hn:=hL.nx
   have b5:=hL.b
   have q1:=hL.q1
   have Yc:=rM l bl
   obtain⟨T,hT1,hT2⟩:=hD
   have hdl:=hl.1
   have hfin:=λ(h':Tr Bk) (n' rb:Nat)=>anm (h':=h') (n':=n') (rb:=rb) hW hT2 hT1 hL hG
   by_cases h0:dl.length=0
   .have hA0:dv=.aX\/∃b o c,dv=.sl b o 0 c:=by
     rcases hT1 with⟨-,e⟩|⟨b,o,c,e,-⟩
     .exact .inl e
     .exact .inr ⟨b,o,c,by rw[e,h0]⟩
    have hend:∀h':Tr Bk,h'=hset (hset σ3.h σ3.aj ⟨[.bool (rn (amt d2)),.str (rs (amt d2)),.str (rd (amt d2)),lC l bl],none⟩) (σ3.aj+1) ⟨[.bool (rn (amt d2)),.str (rs (amt d2)),.str (rd (amt d2)),lC l bl],some (4,132)⟩->(∃rv d,V.c (.sl (σ3.aj+1) 0 1 .opn)=.c rv/\kN (λb=>p b\/σ.aj<=b/\b<σ3.aj+1+1) h' rv (dl++[d])/\d.l.length<=4/\d.w=vY (amt d2)/\LGf el dl d.l)/\Fr σ ⟨h',σ3.aj+1+1⟩:=λh' e=>by subst e;have:=hfin (hset (hset σ3.h σ3.aj ⟨[.bool (rn (amt d2)),.str (rs (amt d2)),.str (rd (amt d2)),lC l bl],none⟩) (σ3.aj+1) ⟨[.bool (rn (amt d2)),.str (rs (amt d2)),.str (rd (amt d2)),lC l bl],some (4,132)⟩) (σ3.aj+1+1) (σ3.aj+1) (by rw[aA,h0];rfl) (λb9 h9=>by simp(disch:=omega) only[au]) jb jb (fr);rw[h0]at this;exact this
    rcases hA0 with rfl|⟨b,o,c,rfl⟩
    .simp(disch:=try exact jz) only[go_sem,z3,t2,t5,ak q1,ak b5,hek,Yc]
     exact hend _ rfl
    .simp(disch:=try exact jz) only[go_sem,z3,t2,t5,ak q1,ak b5,hek,Yc]
     exact hend _ rfl
   .obtain⟨b,o,c,rfl,-,hld⟩:=hT1.pos jb
    have hbl:=hW.dF (hld 0 jb)
    obtain⟨kk,e1,e2,e3,e4,e5⟩:=Q8 jb λi hi=>hF.ld hW (hld i hi)
    have hct:=Ag (e:=4) (n:=dl.length) (G:=λi=>[B.bool (ix dl i).w.n,.str (ix dl i).w.s,.str (ix dl i).w.d,T i]) λ_=>rfl
    have hcn:dl.length*4<=(bV dl.length λi=>[B.bool (ix dl i).w.n,.str (ix dl i).w.s,.str (ix dl i).w.d,T i]).length:=by rw[e4];exact jp
    simp(disch:=try exact jz) only[go_sem,z3,t2,t5,ak q1,ak b5,hek,Yc,e1,e3,e4,e5,e2,hct]
    refine hfin _ _ _ ?_ ?_ jb jb ?_
    .rw[aA,kM]
     congr 2
     refine dB λj hj=>?_
     unfold jk
     by_cases e:j=dl.length
     .rw[ab e,ae jb]
     .rw[ae e,ab jb]
    .intro b9 h9
     simp(disch:=omega) only[au,iH]
    .exact fr
structure RU(A:Nat)(g:gB):Prop where
 n:g.e.length<=1000
 d:g.d.length<=1000
 e:∀i,i<g.e.length->aiW A (ix g.e i)
 l:∀d,d<g.d.length->(ix g.d d).l.length<=1000
 lg:∀d,d<g.d.length->∀k,k<(ix g.d d).l.length->∃e c:Nat,ix (ix g.d d).l k=⟨.ofNat e,.ofNat c⟩/\e<g.e.length/\c<(ix g.e e).c.length
def Yd(ev dv:B)(n:Nat)(bb:Nat->Nat):List B:=[ev,dv,aS n (bb 2),aS n (bb 3)]
def L6{σ:St}(hW:WF σ){p:Nat->Prop}{ev dv:B}(g:gB)(hg:uS p σ.h ev dv g){A:Nat}(hA:Ce A)(hO:RU A g):
  aC EN 43 [.agg [ev,dv]] σ λr σ'=>(∃sb,r=.c (.ptr sb 0)/\DW (Lt σ'.aj) σ'.h sb g)/\Fr σ σ':=by
 refine aO (tH.o _ _) tH.h ?_
 unfold tH
 dsimp only
 have hek:=hg.e.kn
 have hdk:=hg.d.kn
 have hlenE:=hg.e.len
 have hlenD:=hg.d.len
 have hne:=hO.n
 have hnd:=hO.d
 have hFr:=Fr.refl hW
 simp(disch:=try exact jz) only[go_sem,z3,hek,hdk,hlenE]
 refine bK.mono (Q:=λex tm σ'=>ex=.exit 0/\∃p bb R P bs,Tr.ah tm 1=.c (.ptr σ.aj 0)/\Tr.ah tm 3=.c (.ptr (σ.aj+1) 0)/\σ'.h σ.aj=some ⟨[ev,dv],none⟩/\σ'.h (σ.aj+1)=some ⟨Yd ev dv g.e.length bb,none⟩
   /\aaS g.e p σ'.h (Bz g.e.length) bb R P bs g.e.length [] (σ.aj+1+1) σ'.aj/\Fr σ σ'/\σ.aj+1+1<=σ'.aj)
  (aF (λq tm σ'=>∃i p bb R P bs,q=g.e.length-i/\i<=g.e.length/\Tr.ah tm 1=.c (.ptr σ.aj 0)/\Tr.ah tm 3=.c (.ptr (σ.aj+1) 0)/\Tr.ah tm 14=.c ev/\Tr.ah tm 15=.c (.int .i64 (.ofNat g.e.length))/\Tr.ah tm 16=.c (.int .i64 (.ofNat i))/\σ'.h σ.aj=some ⟨[ev,dv],none⟩/\σ'.h (σ.aj+1)=some ⟨Yd ev dv i bb,none⟩
   /\aaS g.e p σ'.h (Bz i) bb R P bs i [] (σ.aj+1+1) σ'.aj/\Fr σ σ'/\σ.aj+1+1<=σ'.aj) g.e.length ?_ ?_) ?_
 .refine⟨0,λ_=>False,λ_=>σ.aj+1+1,λ_=>.aX,λ_=>.aX,λ_=>0,jb,jb,?_⟩
  simp(disch:=try exact jz) only[go_sem,z3,am]
  refine⟨rfl,⟨Fam.nil (λk=>?_) (ai2 _ _ _ _),lH.nil _ _ _ _ _ _,λj hj=>jb,λj k hj=>jb⟩,fr,jb⟩
  unfold Bz;split<;>rfl
 .rintro q tm σ' ⟨i,p,bb,R,P,bs,rfl,hi,t1,t3,t14,t15,t16,q0,q1,hS,hf,hnx⟩
  have hle:=hf.le
  simp(disch:=try exact jz) only[go_sem,z3,t1,t3,t14,t15,t16,aG]
  refine aH (λhlt=>?_) (λhlt=>?_)
  .obtain⟨b5,o5,c5,rfl,C1,A1,bP,-,hC,hA1⟩:=hg.e.at hlt
   have bP:=hf.ld hW bP
   have Vg:=aY.kn hC
   have hAk:=hA1.kn
   have hlo2:=hS.f.l1 2
   have hlo3:=hS.f.l1 3
   have hhi2:i=0\/bb 2<σ'.aj:=hS.f.l2 2
   have hhi3:i=0\/bb 3<σ'.aj:=hS.f.l2 3
   have av3:i=0\/i=0\/bb 2≠bb 3:=hS.f.ne 2 3 jj
   unfold Yd at q1
   refine IG (run_seq (Eo (OW (λtm σ5=>∃p bb R P,Tr.ah tm 1=.c (.ptr σ.aj 0)/\Tr.ah tm 3=.c (.ptr (σ.aj+1) 0)/\Tr.ah tm 5=.c (.ptr σ'.aj 0)/\Tr.ah tm 14=.c (.sl b5 o5 g.e.length c5)/\Tr.ah tm 15=.c (.int .i64 (.ofNat g.e.length))/\Tr.ah tm 16=.c (.int .i64 (.ofNat i))
     /\σ5.h σ.aj=some ⟨[.sl b5 o5 g.e.length c5,dv],none⟩/\σ5.h (σ.aj+1)=some ⟨[.sl b5 o5 g.e.length c5,dv,aS (i+1) (bb 2),aS i (bb 3)],none⟩/\σ5.h σ'.aj=some ⟨[.bool (ix g.e i).m.n,.str (ix g.e i).m.s,.str (ix g.e i).m.d,C1,A1],none⟩/\aaS g.e p σ5.h (aN (Bz i) 2 (Bz i 2+1)) bb R P bs i [] (σ.aj+1+1) σ5.aj/\Fr σ σ5/\σ'.aj<σ5.aj) ?_ ?_)))
   .have jm:=Fr.refl hf.wf
    simp(disch:=try exact jz) only[go_sem,z3,t1,t3,t14,t15,t16,bP,Vg,hAk,ak q1]
    refine aC.st (Fr σ') (fr) λgU=>?_
    have hf5:=hf.trans gU
    refine(avX gU.wf (aY.fr hW hf5 hC) (hA1.fr hW hf5) rfl rfl rfl hA (hO.e i hlt)).mono ?_
    rintro _ σ6 ⟨⟨rv,pv,rfl,hL⟩,iw⟩
    have lK:=gU.trans iw
    have aaO:=hf.trans lK
    have Aj:σ'.aj+1<=σ6.aj:=iw.le
    have q06:=lK.get hf.wf q0
    have q16:=lK.get hf.wf q1
    have q56:σ6.h σ'.aj=some ⟨[.bool (ix g.e i).m.n,.str (ix g.e i).m.s,.str (ix g.e i).m.d,C1,A1],none⟩:=iw.get gU.wf (aA _ _ _)
    have hrk:=hL.rk.kn
    have hpk:=hL.VX
    have hS6:=hS.keep (ae5 _ _ _) (λb _ hb=>lK.old b hb) jp
    have hg6:sH i σ6.h (bb 2)=gF i (bG g.e R P bs 2) 6 148:=hS6.f.g 2
    have hLG:LG (bG g.e R P bs 2) 6:=ai2 _ _ _ _ 2
    unfold jB
    simp(disch:=try exact jz) only[go_sem,z3,t1,t3,t14,t15,t16,hrk,hpk,ak q16,q16,hg6]
    refine⟨λb=>p b\/σ'.aj<=b/\b<σ6.aj,aN bb 2 (σ6.aj+1),aN R i rv,aN P i pv,?_⟩
    and_intros<;>try(first|rfl|omega|exact q06|exact q56|exact fr)
    refine hS.push 2 (hi1:=σ6.aj) (h1:=σ6.h) (λx h=>.inl h) (λx h=>h) (ae5 _ _ _) (λk j hj p h hq=>asD (aL hj (acU i k)) rv pv k p h hq) (λk j hj=>asE (aL hj (acU i k)) rv pv k) (ai2 _ _ _ _) ?_ (λb _ hb=>lK.old b hb) jb jb jb hnx
     (x:=jB (ix g.e i).c.length rv pv (rW (ix g.e i) (ix g.e i).c.length)) ?_ ?_ λc h1 h2 h3=>?_
    .show yR _ _ (aN R i rv i) (aN P i pv i) _
     rw[aP,aP]
     exact hL.keep (λ_ _=>rfl) λb hb=>.inr ⟨aw (eI _) hb.1,hb.2⟩
    .rw[au _ _ _ _ jb,aA];rfl
    .show _=jB _ (aN R i rv i) (aN P i pv i) _
     rw[aP,aP];rfl
    .rw[au _ _ _ _ jb,au _ _ _ _ jb,dP i _ _ _ h3,au _ _ _ _ jb]
   .rintro tm5 σ5 ⟨p5,l9,R5,P5,t1,t3,t5,t14,t15,t16,q0,q1,q5,hS5,hf5,hn5⟩
    have wO:=hf5.le
    have hlo2:=hS5.f.l1 2
    have hlo3:=hS5.f.l1 3
    have hhi2:i+1=0\/l9 2<σ5.aj:=hS5.f.l2 2
    have hhi3:i=0\/l9 3<σ5.aj:=hS5.f.l2 3
    have av3:i+1=0\/i=0\/l9 2≠l9 3:=hS5.f.ne 2 3 jj
    have hg5:sH i σ5.h (l9 3)=gF i (bG g.e R5 P5 bs 3) 1 38:=hS5.f.g 3
    have hLG:LG (bG g.e R5 P5 bs 3) 1:=ai2 _ _ _ _ 3
    have hnc:=(hO.e i hlt).nc
    have hlC:=aY.len hC
    have Fa:=Fr.refl hf5.wf
    simp(disch:=try exact jz) only[go_sem,z3,t1,t3,t5,t14,t15,t16,hlC,Vg,hAk,ak q1,ak q5,q1,hg5]
    refine⟨g.e.length-(i+1),jb,i+1,p5,aN l9 3 (σ5.aj+1+1),R5,P5,aN bs i σ5.aj,rfl,jb,rfl,q0,rfl,?_,fr,jb⟩
    rw[<-ae6]
    refine hS5.pushRow 3 (hi1:=σ5.aj+1) (nb:=σ5.aj) (h1:=hset σ5.h σ5.aj ⟨bV (kE g.e i) (OX [] i),none⟩) (ae5 _ _ _) (λk j hj p h hq=>hq) (λk j hj=>asF (m:=i) k λe=>by subst e;exact hj) (ai2 _ _ _ _) trivial (λb _ hb=>au _ _ _ _ jb) jb jb jb jb (x:=[yC (kE g.e) (aN bs i σ5.aj) i]) ?_ rfl (λc h1 h2 h3=>?_) jb jb ?_
    .rw[au _ _ _ _ jb,aA]
     unfold yC
     rw[aP];rfl
    .rw[au _ _ _ _ jb,au _ _ _ _ jb,dP i _ _ _ h3,au _ _ _ _ jb];rfl
    .rw[au _ _ _ _ jb,au _ _ _ _ jb,dP _ _ _ _ jb,au _ _ _ _ jb,aA];rfl
  .have:i=g.e.length:=jb
   subst this
   simp(disch:=try exact jz) only[go_sem,z3,am]
   exact⟨p,bb,R,P,bs,t1,t3,q0,q1,hS,hf,hnx⟩
 rintro _ tm σ2 ⟨rfl,p2,bb,R,P,bs,t1,t3,q0,q1,hS,hf,hnx⟩
 have hle:=hf.le
 have azs:∀k,bb k<σ2.aj\/Bz g.e.length k=0:=λk=>(hS.f.l2 k).symm
 simp(disch:=try exact jz) only[go_sem,z3,t1,t3,ak q0,hdk,hlenD]
 refine bK.mono (Q:=λex tm σ'=>ex=.exit 2/\Tr.ah tm 3=.c (.ptr (σ.aj+1) 0)/\σ'.h (σ.aj+1)=some ⟨Yd ev dv g.e.length bb,none⟩/\aaS g.e p2 σ'.h (Bz g.e.length) bb R P bs g.e.length (BO g.d g.d.length) (σ.aj+1+1) σ'.aj/\Fr σ σ'/\σ.aj+1+1<=σ'.aj)
  (aF (λq tm σ'=>∃j,q=g.d.length-j/\j<=g.d.length/\Tr.ah tm 3=.c (.ptr (σ.aj+1) 0)/\Tr.ah tm 46=.c dv/\Tr.ah tm 47=.c (.int .i64 (.ofNat g.d.length))/\Tr.ah tm 48=.c (.int .i64 (.ofNat j))
   /\σ'.h (σ.aj+1)=some ⟨Yd ev dv g.e.length bb,none⟩/\aaS g.e p2 σ'.h (Bz g.e.length) bb R P bs g.e.length (BO g.d j) (σ.aj+1+1) σ'.aj/\Fr σ σ'/\σ.aj+1+1<=σ'.aj) g.d.length ?_ ?_) ?_
 .refine⟨0,jb,jb,?_⟩
  simp(disch:=try exact jz) only[go_sem,z3,t3,am]
  exact⟨q1,hS,hf,hnx⟩
 .rintro q tm σ' ⟨j,rfl,hj,t3,t46,t47,t48,q1,hS,hf,hnx⟩
  have hle:=hf.le
  simp(disch:=try exact jz) only[go_sem,z3,t3,t46,t47,t48,aG]
  refine aH (λhlt=>?_) (λhlt=>?_)
  .obtain⟨b5,o5,c5,rfl,T1,bP,hT⟩:=hg.d.el hlt
   have bP:=hf.ld hW bP
   have Y6:=aY.kn hT
   have hlT:=aY.len hT
   have hll:=hO.l j hlt
   have jm:=Fr.refl hf.wf
   simp(disch:=try exact jz) only[go_sem,z3,t3,t46,t47,t48,bP,Y6,hlT]
   refine bK.st (Fr σ') (fr) λhF3=>?_
   have hf3:=hf.trans hF3
   have hS3:=hS.keep (ae5 _ _ _) (λb _ hb=>hF3.old b hb) hF3.le
   have q13:=hF3.get hf.wf q1
   have hle3:=hF3.le
   refine bK.mono (Q:=λex tm σ4=>ex=.exit 4/\Tr.ah tm 3=.c (.ptr (σ.aj+1) 0)/\Tr.ah tm 46=.c (.sl b5 o5 g.d.length c5)/\Tr.ah tm 47=.c (.int .i64 (.ofNat g.d.length))/\Tr.ah tm 48=.c (.int .i64 (.ofNat j))/\σ4.h (σ.aj+1)=some ⟨Yd ev (.sl b5 o5 g.d.length c5) g.e.length bb,none⟩/\aaS g.e p2 σ4.h (Bz g.e.length) bb R P bs g.e.length (BO g.d (j+1)) (σ.aj+1+1) σ4.aj/\Fr σ σ4/\σ.aj+1+1<=σ4.aj)
    (aF (λq tm σ4=>∃t,q=(ix g.d j).l.length-t/\t<=(ix g.d j).l.length/\Tr.ah tm 3=.c (.ptr (σ.aj+1) 0)/\Tr.ah tm 46=.c (.sl b5 o5 g.d.length c5)/\Tr.ah tm 47=.c (.int .i64 (.ofNat g.d.length))/\Tr.ah tm 48=.c (.int .i64 (.ofNat j))/\Tr.ah tm 53=.c T1/\Tr.ah tm 54=.c (.int .i64 (.ofNat (ix g.d j).l.length))/\Tr.ah tm 55=.c (.int .i64 (.ofNat t))
     /\σ4.h (σ.aj+1)=some ⟨Yd ev (.sl b5 o5 g.d.length c5) g.e.length bb,none⟩/\aaS g.e p2 σ4.h (Bz g.e.length) bb R P bs g.e.length (BO g.d j++((ix g.d j).l.take t).map zK) (σ.aj+1+1) σ4.aj/\Fr σ σ4/\σ.aj+1+1<=σ4.aj) (ix g.d j).l.length ?_ ?_) ?_
   .refine⟨0,jb,jb,?_⟩
    simp(disch:=try exact jz) only[go_sem,z3,t3,t46,t47,t48,am,cM,List.map_nil,dE]
    exact⟨q1,hS3,hf3,jb⟩
   .rintro q tm σ4 ⟨t,rfl,ht,t3,t46,t47,t48,t53,t54,t55,PU,hS4,hf4,hn4⟩
    have uo:=hf4.le
    simp(disch:=try exact jz) only[go_sem,z3,t3,t46,t47,t48,t53,t54,t55,aG]
    refine aH (λhlt4=>?_) (λhlt4=>?_)
    .obtain⟨b6,o6,c6,rfl,-,bH⟩:=aY.pos hT jb
     have bH:=hf4.ld hW (bH t hlt4)
     obtain⟨e,c,Ci,he,hc⟩:=hO.lg j hlt t hlt4
     unfold Ll at bH
     rw[Ci]at bH
     have hrow:ld σ4.h (bb 3) (0+e*1) 1 false=some (.c (yC (kE g.e) bs e)):=by obtain⟨b7,o7,c7,e7,-,dw⟩:=aY.pos (hS4.f.hlp 3 (q:=λ_=>True) jj (λ_ _=>rfl) λ_ _ _=>trivial) (show 0<Bz g.e.length 3 by show 0<g.e.length;omega);have e8:aS g.e.length (bb 3)=.sl b7 o7 g.e.length c7:=e7;rw[rX jb]at e8;cases e8;exact(vT (dw e he)).1
     unfold yC kE at hrow
     rw[cP]at hrow
     obtain⟨hr1,hr2,hr3⟩:=hS4.r.r e he
     have hr1:σ4.h (bs e)=some ⟨ones (ix g.e e).c.length λc=>.bool ((BO g.d j++((ix g.d j).l.take t).map zK).contains (e,c)),none⟩:=hr1
     have hb3:=hS4.f.l1 3
     have am7:bb 3<σ4.aj:=by rcases hS4.f.l2 3 with h|h;exact absurd (show g.e.length=0 from h) jb;exact h
     have Cc:=Fr.refl hf4.wf
     have hfp:=rX (show 0<g.e.length by omega) (bb 3)
     have asI:=PU
     unfold Yd at asI
     rw[hfp]at asI
     simp(disch:=try exact jz) only[go_sem,z3,t3,t46,t47,t48,t53,t54,t55,bH,ak asI,hrow,aI hr1,hr1]
     refine⟨(ix g.d j).l.length-(t+1),jb,t+1,rfl,jb,rfl,PU,?_,fr,jb⟩
     have e9:BO g.d j++((ix g.d j).l.take (t+1)).map zK=(BO g.d j++((ix g.d j).l.take t).map zK)++[(e,c)]:=by rw[bW hlt4,List.map_append,il,Ci];rfl
     rw[e9]
     show uZ _ _ _ _ _ _ _ _ _ _ (OX _) _ _ _
     rw[<-ae8]
     refine(hS4.keep (h':=hset (hset σ4.h σ4.aj ⟨[i0,i0],none⟩) σ4.aj ⟨[.int .i64 (.ofNat e),.int .i64 (.ofNat c)],none⟩) (ae5 _ _ _) (λb _ hb=>by rw[au _ _ _ _ jb,au _ _ _ _ jb]) (eI _)).write (ae5 _ _ _) he (dB λc' _=>?_)
     unfold jk aN OX
     split<;>rfl
    .have:t=(ix g.d j).l.length:=jb
     subst this
     simp(disch:=try exact jz) only[go_sem,z3,am]
     rw[cC,<-aaT hlt]at hS4
     exact⟨t3,t46,t47,t48,PU,hS4,hf4,hn4⟩
   .rintro _ tm σ4 ⟨rfl,t3,t46,t47,t48,PU,hS4,hf4,hn4⟩
    simp(disch:=try exact jz) only[go_sem,z3,t3,t46,t47,t48]
    exact⟨g.d.length-(j+1),jb,j+1,rfl,jb,rfl,PU,hS4,hf4,hn4⟩
  .have:j=g.d.length:=jb
   subst this
   simp(disch:=try exact jz) only[go_sem,z3,am]
   exact⟨t3,q1,hS,hf,hnx⟩
 rintro _ tm σ3 ⟨rfl,t3,q1,hS,hf,hnx⟩
 have hle:=hf.le
 simp(disch:=try exact jz) only[go_sem,z3,t3]
 refine⟨⟨_,rfl,⟨_,_,_,_,q1,(hg.fr hW hf).keep (λ_ _=>rfl) λb hb=>aL hb hf.le,⟨R,P,?_,λi hi=>?_⟩,?_⟩,by show _<_;omega⟩,hf⟩
 .refine(hS.f.hlp 2 jj (λj hj=>?_) λb _ h2=>h2)
  have:=hS.f.q 2 j hj
  show List.all (jB _ _ _ _) B.kn=true
  unfold jB
  have h1:(R j).kn=true:=yR.rk this|>.kn
  have h2:(P j).kn=true:=yR.VX this
  simp only[cW,eA,ahj,AU,FY,h1,h2,eh]
 .exact yR.keep (hS.f.q 2 i hi) (λ_ _=>rfl) λb hb=>(hS.f.pp b hb).2
 .refine⟨λi=>yC (kE g.e) bs i,hS.f.hlp 3 jj (λ_ _=>rfl) λb _ h2=>h2,λi hi=>?_⟩
  rw[<-ae7]
  exact hS.r.hlp (λb _ h2=>h2) jj (λ_ _=>rfl) (λ_ _ _ _=>rfl) hi
end Go.Proofs.Xe
