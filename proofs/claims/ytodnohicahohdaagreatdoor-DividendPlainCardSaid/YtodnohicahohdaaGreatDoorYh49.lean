import Derived.Test.YtodnohicahohdaaGreatDoorYh48
set_option linter.all false
set_option maxRecDepth 100000
set_option maxHeartbeats 8000000
namespace Go.Proofs.Xe
open Go.RowKit Go.Proofs.Ins
section
variable {φ:Ph} {args:List V} {v:V} {aV:Array Value} {f:Nat}
def Td{x y:V}(h:BA φ [x,y] aV.toList):∃u v,aV= #[u,v]/\RV φ x u/\RV φ y v:=by
 obtain⟨l⟩:=aV;match l,h with
 |[u,v],h=>exact⟨u,v,rfl,h.1,h.2.1⟩
def adT{x y z:V}(h:BA φ [x,y,z] aV.toList):∃u v t,aV= #[u,v,t]/\RV φ x u/\RV φ y v/\RV φ z t:=by
 obtain⟨l⟩:=aV;match l,h with
 |[u,v,t],h=>exact⟨u,v,t,rfl,h.1,h.2.1,h.2.2.1⟩
def OY{n:Bool}{x y:B}{s d:Nat}{cv:Value}(hx:x.num=some s)(hy:y.num=some d)(h:RV φ (.agg [.bool n,x,y]) cv):cv=.agg #[.bool n,.string (bn s),.string (bn d)]:=by
 obtain⟨r,e,hr⟩:=h;obtain⟨l⟩:=r;match l,hr with
 |[a,b,c],⟨h1,h2,h3,_⟩=>
  have h1:a=.bool n:=h1
  rw[e,h1,qW hx h2,qW hy h3]
def Nl{q:Rat}{cv:Value}(h:RV φ (rV q) cv):cv=rv q:=by
 obtain⟨r,e,hr⟩:=h;obtain⟨l⟩:=r;match l,hr with
 |[a,b,c],⟨h1,h2,h3,_⟩=>
  have h1:a=.bool (rn q):=h1
  have h2:b=.string (rs q):=h2
  have h3:c=.string (rd q):=h3
  rw[e,h1,h2,h3];rfl
def anP{q:Rat}{b:Bool}{cv:Value}(h:RV φ (rbV q b) cv):cv=rvB q b:=by
 obtain⟨x,xs,e,h1,y,ys,e2,h3,h4⟩:=h;have h3:y=.bool b:=h3;have h4:Value.tuple ys.toArray=.tuple #[]:=h4;have h5:ys=[]:=by simpa using h4
 have h6:xs=y::ys:=by simpa using e2
 rw[e,Nl h1,h6,h3,h5];rfl
def Ct.ch{P:Program}{v':V}{w:World}(h:Ct P f v' aV w)(hv:∀φ cv,RV φ v' cv->RV φ v cv):Ct P f v aV w:=
 Calls.mono h λ_ _ ⟨cv,e,hb,hr⟩=>⟨cv,e,hb,λφ=>hv φ cv (hr φ)⟩
def FY{n:Bool}{s d:Nat}(h:OW n s d=true)(φ:Ph):RV φ (VE n s d) (rv (rq n (bn s) (bn d))):=by rw[axq h];exact⟨_,rfl,rfl,rfl,rfl,trivial⟩
def anQ(i:Int)(φ:Ph):RV φ (iVk i) (.int .i64 i):=by unfold iVk;split<;>rfl
def abn[hf:oU f]{c:Bool}{R:Rat->V}{g:Bool->Nat->Nat->V}(hT:jg f=Y8 c R)(hg:∀n s d,OW n s d=true->∀φ cv,RV φ (R (rq n (bn s) (bn d))) cv->RV φ (g n s d) cv)(h:Tc g args=some v)(ha:BA φ args aV.toList)(w:World):Ct Tryz.prog f v aV w:=by
 unfold Tc at h;split at h
 .next n x y=>
  split at h;rotate_left
  .cases h
  next s d hx hy=>
  cases hb:OW n s d with
  |false=>rw[hb]at h;cases h
  |true=>
   rw[hb]at h
   cases h
   obtain⟨u,rfl,hu⟩:=Gp ha
   rw[OY hx hy hu]
   obtain⟨h0,h1,h2,-⟩:=xg hb
   exact(hf.c [.agg [.bool n,.str (bn s),.str (bn d)]] _ ((bp hT _).trans (ab ⟨jb,λ_=>h0⟩)) φ #[.agg #[.bool n,.string (bn s),.string (bn d)]] w ⟨⟨_,rfl,rfl,rfl,rfl,trivial⟩,trivial⟩).ch (hg n s d hb)
 .cases h
def zQ[hf:oU f]{c:Bool}{R:Rat->Rat->V}{g:Bool->Nat->Nat->Bool->Nat->Nat->V}(hT:jg f=Qc c R)(hg:∀n1 s1 d1 n2 s2 d2,OW n1 s1 d1=true->OW n2 s2 d2=true->∀φ cv,RV φ (R (rq n1 (bn s1) (bn d1)) (rq n2 (bn s2) (bn d2))) cv->RV φ (g n1 s1 d1 n2 s2 d2) cv)(h:Ku g args=some v)(ha:BA φ args aV.toList)(w:World):Ct Tryz.prog f v aV w:=by
 unfold Ku at h;split at h
 .next n1 x1 y1 n2 x2 y2=>
  split at h;rotate_left
  .cases h
  next s1 d1 hx1 hy1=>
  split at h;rotate_left
  .cases h
  next s2 d2 hx2 hy2=>
  cases hb:(OW n1 s1 d1&&OW n2 s2 d2)with
  |false=>rw[hb]at h;cases h
  |true=>
   rw[hb]at h
   cases h
   rw[af]at hb
   obtain⟨u,v,rfl,hu,hv⟩:=Td ha
   rw[OY hx1 hy1 hu,OY hx2 hy2 hv]
   obtain⟨h0,h1,h2,-⟩:=xg hb.1
   obtain⟨h5,h3,h4,-⟩:=xg hb.2
   exact(hf.c [.agg [.bool n1,.str (bn s1),.str (bn d1)],.agg [.bool n2,.str (bn s2),.str (bn d2)]] _ ((bp hT _).trans (ab ⟨⟨jb,jb⟩,λ_=>⟨h0,h5⟩⟩)) φ #[.agg #[.bool n1,.string (bn s1),.string (bn d1)],.agg #[.bool n2,.string (bn s2),.string (bn d2)]] w ⟨⟨_,rfl,rfl,rfl,rfl,trivial⟩,⟨_,rfl,rfl,rfl,rfl,trivial⟩,trivial⟩).ch (hg n1 s1 d1 n2 s2 d2 hb.1 hb.2)
 .cases h
def Kv[hf:oU f]{R:Nat->Nat->Option V}{g u:Nat->Nat->V}(hT:jg f=Yk R)(hu:∀a b,R a b=some (u a b))(hg:∀a b φ cv,RV φ (u a b) cv->RV φ (g a b) cv)(h:VD g args=some v)(ha:BA φ args aV.toList)(w:World):Ct Tryz.prog f v aV w:=by
 unfold VD at h;split at h
 .next x y=>
  split at h;rotate_left
  .cases h
  next a b hx hy=>
  cases hb:(sm a&&sm b)with
  |false=>rw[hb]at h;cases h
  |true=>
   rw[hb]at h
   cases h
   rw[af]at hb
   obtain⟨p,q,rfl,hp,hq⟩:=Td ha
   have hp:p=.string (bn a):=qW hx hp
   have hq:q=.string (bn b):=qW hy hq
   have s1:=Az hb.1
   have s2:=Az hb.2
   rw[hp,hq]
   refine(hf.c [.c (.str (bn a)),.c (.str (bn b))] (u a b) ((bp hT _).trans ((ab ⟨jb,jb⟩).trans ?_)) φ #[.string (bn a),.string (bn b)] w ⟨rfl,rfl,trivial⟩).ch (hg a b)
   rw[dS,dS];exact hu a b
 .cases h
def Yi(n:Nat)(φ:Ph)(cv:Value)(h:RV φ (.c (.str (bn n))) cv):RV φ (anO n) cv:=by unfold anO;rw[jr];exact h
def iW{c:Prop}[Decidable c]{x y:Option V}{v:V}(h:(if c then x else y)=some v):(c/\x=some v)\/(¬c/\y=some v):=by
 by_cases hc:c
 .rw[ab hc]at h;exact .inl ⟨hc,h⟩
 .rw[ae hc]at h;exact .inr ⟨hc,h⟩
def afV[hf:oU f]{l u:Int}(hT:jg f=kI .i64 l u λi=>rV i){c:Int->Bool}(hc:∀i,c i=true->l<=i/\i<=u)(h:ar6 c args=some v)(ha:BA φ args aV.toList)(w:World):Ct Tryz.prog f v aV w:=by
 unfold ar6 at h;split at h
 .next i=>
  cases hb:c i with
  |false=>rw[hb]at h;cases h
  |true=>
   rw[hb]at h
   cases h
   obtain⟨u,rfl,hu⟩:=Gp ha
   exact(hf.c [.c (.int .i64 i)] (rV i) ((bp hT _).trans (ab ⟨rfl,hc i hb⟩)) φ #[u] w ⟨hu,trivial⟩).ch λφ cv h=>by rw[Nl h];exact ar5 i φ
 .cases h
def anR{i:Int}(hb:Ih .i64 i=true): -9223372036854775808<=i/\i<=9223372036854775807:=by
 cases i with
 |ofNat m=>have:=ax hb;simp only[bX];omega
 |negSucc m=>have:=ax hb;omega
def aBg{i:Int}(hb:(match i with|.ofNat m=>Nat.ble m 100|_=>false)=true):0<=i/\i<=100:=by
 cases i with
 |ofNat m=>have:=ax hb;simp only[bX];omega
 |negSucc m=>cases hb
def abo{x:V}{q:Rat}{b:Bool}{cv:Value}(h:RV φ (rbV q b) cv)(hx:RV φ x (rv q)):RV φ (VB x b) cv:=by rw[anP h];exact S9 hx
def Yj{s:ByteArray}{b:Bool}{cv:Value}(h:RV φ (.aU (.c (.str s)) (.aU (.c (.bool b)) .tnil)) cv):cv=.tuple #[.string s,.bool b]:=by
 obtain⟨x,xs,e,h1,y,ys,e2,h3,h4⟩:=h;have h1:x=.string s:=h1;have h3:y=.bool b:=h3;have h4:Value.tuple ys.toArray=.tuple #[]:=h4;have h5:ys=[]:=by simpa using h4
 have h6:xs=y::ys:=by simpa using e2
 rw[e,h1,h6,h3,h5]
def ar7(a b:Nat)(φ:Ph)(cv:Value)(h:RV φ (if b<=a then .aU (.c (.str (bn (a-b)))) (.aU (.c (.bool true)) .tnil)else .aU (.c (.str ⟨#[]⟩)) (.aU (.c (.bool false)) .tnil)) cv):RV φ (axu a b) cv:=by
 unfold axu;by_cases hab:b<=a
 .rw[ab hab]at h;rw[Yj h,show Nat.blt a b=false from by
   cases hb:Nat.blt a b with
   |true=>have:=ax hb;omega
   |false=>rfl,dT,jr]
  exact⟨_,[.bool true],rfl,rfl,.bool true,[],rfl,rfl,rfl⟩
 .rw[ae hab]at h;rw[Yj h,show Nat.blt a b=true from di jb,bB];exact⟨_,[.bool false],rfl,rfl,.bool false,[],rfl,rfl,rfl⟩
def anS[hf:oU f](hT:jg f=kB3 λn a b=>some (if b=0 then rbV 0 false else rbV (Ins.fr n a b) true))(h:anL args=some v)(ha:BA φ args aV.toList)(w:World):Ct Tryz.prog f v aV w:=by
 unfold anL at h;split at h
 .next n x0 y0=>
  split at h;rotate_left
  .cases h
  next a b hx0 hy0=>
  cases hb:(sm a&&sm b)with
  |false=>rw[hb]at h;cases h
  |true=>
   rw[hb]at h
   rw[af]at hb
   simp only[bB,aT]at h
   obtain⟨u,x,t,rfl,hu,hx,ht⟩:=adT ha
   have hu:u=.bool n:=hu
   have hx:x=.string (bn a):=qW hx0 hx
   have ht:t=.string (bn b):=qW hy0 ht
   rw[hu,hx,ht]
   have s1:=Az hb.1
   have s2:=Az hb.2
   rw[pR]at h
   refine(hf.c [.c (.bool n),.c (.str (bn a)),.c (.str (bn b))] _ ((bp hT _).trans (ab ⟨jb,jb⟩)) φ #[.bool n,.string (bn a),.string (bn b)] w ⟨rfl,rfl,rfl,trivial⟩).ch λφ cv hc=>?_
   rw[dS,dS]at hc
   by_cases h0:b=0
   .rw[ab h0]at h hc
    rw[<-h];exact abo hc (Yg φ)
   .rw[ae h0]at h hc
    rw[<-h];exact abo hc (FX jb φ)
 .cases h
def axw[hf:oU f](hT:jg f=kVd)(h:Tc (λ_ _ _=>.c (.bool true)) args=some v)(ha:BA φ args aV.toList)(w:World):Ct Tryz.prog f v aV w:=by
 unfold Tc at h;split at h
 .next n x y=>
  split at h;rotate_left
  .cases h
  next s d hx hy=>
  cases hb:OW n s d with
  |false=>rw[hb]at h;cases h
  |true=>
   rw[hb]at h
   cases h
   obtain⟨u,rfl,hu⟩:=Gp ha
   rw[OY hx hy hu]
   obtain⟨h0,h1,h2,-⟩:=xg hb
   exact(hf.c [.agg [.bool n,.str (bn s),.str (bn d)]] (.c (.bool true)) ((bp hT _).trans ((ab jb).trans (by rw[aw h0]))) φ #[.agg #[.bool n,.string (bn s),.string (bn d)]] w ⟨⟨_,rfl,rfl,rfl,rfl,trivial⟩,trivial⟩)
 .cases h
def anT[hf:oU f](hT:jg f=kI .u64 0 18446744073709551615 λi=>.c (.str (bn i.toNat)))(h:anM args=some v)(ha:BA φ args aV.toList)(w:World):Ct Tryz.prog f v aV w:=by
 unfold anM at h;split at h
 .next u=>
  cases hb:Nat.blt u 18446744073709551616 with
  |false=>rw[hb]at h;cases h
  |true=>
   rw[hb]at h
   cases h
   have hb:=ax hb
   obtain⟨x,rfl,hx⟩:=Gp ha
   exact(hf.c [.c (.int .u64 (.ofNat u))] (.c (.str (bn u))) ((bp hT _).trans (ab ⟨rfl,by simp only[bX];omega,by simp only[bX];omega⟩)) φ #[x] w ⟨hx,trivial⟩).ch λφ cv h=>h
 .cases h
def anU[hf:oU f](hT:jg f=Yk λa b=>if 0<b then some (.aU (.c (.str (bn (a/b)))) (.aU (.c (.str (bn (a%b)))) (.aU (.c (.bool true)) .tnil)))else none)(h:anN args=some v)(ha:BA φ args aV.toList)(w:World):Ct Tryz.prog f v aV w:=by
 unfold anN at h;split at h
 .next x0 y0=>
  split at h;rotate_left
  .cases h
  next a b hx0 hy0=>
  cases hb:(sm a&&(sm b&& !Nat.beq b 0))with
  |false=>rw[hb]at h;cases h
  |true=>
   rw[hb]at h
   cases h
   simp only[af,eC]at hb
   obtain⟨u,x,rfl,hu,hx⟩:=Td ha
   have hu:u=.string (bn a):=qW hx0 hu
   have hx:x=.string (bn b):=qW hy0 hx
   rw[hu,hx]
   have s1:=Az hb.1
   have s2:=Az hb.2.1
   have h0:0<b:=et λe=>by rw[e]at hb;exact absurd hb.2.2 jj
   refine(hf.c [.c (.str (bn a)),.c (.str (bn b))] _ ((bp hT _).trans ((ab ⟨jb,jb⟩).trans (ab (by rw[dS];exact h0)))) φ #[.string (bn a),.string (bn b)] w ⟨rfl,rfl,trivial⟩).ch λφ cv hc=>?_
   rw[dS,dS]at hc
   simp only[jr]
   obtain⟨x,xs,e,h1,hr⟩:=hc
   have h1:x=.string (bn (a/b)):=h1
   have hr:=Yj hr
   have hr:xs=[.string (bn (a%b)),.bool true]:=by simpa using hr
   rw[e,h1,hr]
   exact⟨_,[.string (bn (a%b)),.bool true],rfl,rfl,_,[.bool true],rfl,rfl,.bool true,[],rfl,rfl,rfl⟩
 .cases h
def axx(f:Nat)(args:List V)(v:V)(h:ctr f args=some v):okF Tryz.prog f/\∀(φ:Ph) (aV:Array Value) (w:World),BA φ args aV.toList->Ct Tryz.prog f v aV w:=by
 unfold ctr at h;rcases iW h with⟨e,h⟩|⟨-,h⟩
 .subst e;exact⟨(inferInstance:oU _).k,λφ aV w ha=>zQ sW (λ_ _ _ _ _ _ k1 k2 φ cv h=>by rw[Nl h];exact afT k1 k2 φ) h ha w⟩
 rcases iW h with⟨e,h⟩|⟨-,h⟩
 .subst e;exact⟨(inferInstance:oU _).k,λφ aV w ha=>zQ jh (λ_ _ _ _ _ _ k1 k2 φ cv h=>by have h:cv=_:=h;rw[h,Yh k1 k2];exact anQ _ φ) h ha w⟩
 rcases iW h with⟨e,h⟩|⟨-,h⟩
 .subst e;exact⟨(inferInstance:oU _).k,λφ aV w ha=>zQ qC (λ_ _ _ _ _ _ k1 k2 φ cv h=>by rw[Nl h];exact ar2 k1 k2 φ) h ha w⟩
 rcases iW h with⟨e,h⟩|⟨-,h⟩
 .subst e;exact⟨(inferInstance:oU _).k,λφ aV w ha=>zQ sZ (λ_ _ _ _ _ _ k1 k2 φ cv h=>by rw[anP h];exact ar4 k1 k2 φ) h ha w⟩
 rcases iW h with⟨e,h⟩|⟨-,h⟩
 .subst e;exact⟨(inferInstance:oU _).k,λφ aV w ha=>abn rD (λ_ _ _ k φ cv h=>by have h:cv=_:=h;rw[h,anK k];exact anQ _ φ) h ha w⟩
 rcases iW h with⟨e,h⟩|⟨-,h⟩
 .subst e;exact⟨(inferInstance:oU _).k,λφ aV w ha=>zQ tq (λn1 s1 d1 n2 s2 d2 k1 k2 φ cv h=>by
   rw[Nl h];unfold Jq;rw[Yh k1 k2];by_cases hc:aiw n1 s1 d1 n2 s2 d2<=0
   .rw[aw hc,ab hc];exact FY k1 φ
   .rw[ap hc,ae hc];exact FY k2 φ) h ha w⟩
 rcases iW h with⟨e,h⟩|⟨-,h⟩
 .subst e;exact⟨(inferInstance:oU _).k,λφ aV w ha=>zQ tu (λn1 s1 d1 n2 s2 d2 k1 k2 φ cv h=>by
   rw[Nl h];unfold wR;rw[Yh k1 k2];by_cases hc:0<=aiw n1 s1 d1 n2 s2 d2
   .rw[aw hc,ab hc];exact FY k1 φ
   .rw[ap hc,ae hc];exact FY k2 φ) h ha w⟩
 rcases iW h with⟨e,h⟩|⟨-,h⟩
 .subst e;exact⟨(inferInstance:oU _).k,λφ aV w ha=>abn lY (λ_ _ _ k φ cv h=>by rw[Nl h];exact FY k φ) h ha w⟩
 rcases iW h with⟨e,h⟩|⟨-,h⟩
 .subst e;exact⟨(inferInstance:oU _).k,λφ aV w ha=>zQ oW (λ_ _ _ _ _ _ k1 k2 φ cv h=>by rw[Nl h];exact afT k1 k2 φ) h ha w⟩
 rcases iW h with⟨e,h⟩|⟨-,h⟩
 .subst e;exact⟨(inferInstance:oU _).k,λφ aV w ha=>afV yO (λ_=>anR) h ha w⟩
 rcases iW h with⟨e,h⟩|⟨-,h⟩
 .subst e;exact⟨(inferInstance:oU _).k,λφ aV w ha=>Kv wu (λ_ _=>rfl) (λ_ _=>Yi _) h ha w⟩
 rcases iW h with⟨e,h⟩|⟨-,h⟩
 .subst e;exact⟨(inferInstance:oU _).k,λφ aV w ha=>Kv nG (λ_ _=>rfl) (λ_ _=>Yi _) h ha w⟩
 rcases iW h with⟨e,h⟩|⟨-,h⟩
 .subst e;exact⟨(inferInstance:oU _).k,λφ aV w ha=>Kv wz (λ_ _=>rfl) (λ_ _=>Yi _) h ha w⟩
 rcases iW h with⟨e,h⟩|⟨-,h⟩
 .subst e;exact⟨(inferInstance:oU _).k,λφ aV w ha=>anS ru h ha w⟩
 rcases iW h with⟨e,h⟩|⟨-,h⟩
 .subst e;exact⟨(inferInstance:oU _).k,λφ aV w ha=>axw pV h ha w⟩
 rcases iW h with⟨e,h⟩|⟨-,h⟩
 .subst e;exact⟨(inferInstance:oU _).k,λφ aV w ha=>anT nI h ha w⟩
 rcases iW h with⟨e,h⟩|⟨-,h⟩
 .subst e;exact⟨(inferInstance:oU _).k,λφ aV w ha=>Kv nH (λ_ _=>rfl) ar7 h ha w⟩
 rcases iW h with⟨e,h⟩|⟨-,h⟩
 .subst e;exact⟨(inferInstance:oU _).k,λφ aV w ha=>anU pU h ha w⟩
 rcases iW h with⟨e,h⟩|⟨-,h⟩
 .subst e;exact⟨(inferInstance:oU _).k,λφ aV w ha=>afV CV (λ_=>aBg) h ha w⟩
 cases h
end
def ar8(f:Nat)(args:List V)(J:St)(v:V)(J':St)(h:axv f args J=some (v,J')):okF Tryz.prog f/\∀(N:Nat) (w0:World) (φ:Ph) (w:World) (aV:Array Value),Rel N w0 φ J w->BA φ args aV.toList->
  Calls Tryz.prog f aV w λe w'=>∃cv,e=.returned cv/\∃φ',Ext J.aj φ φ'/\Rel N w0 φ' J' w'/\RV φ' v cv/\J.aj<=J'.aj:=by
 unfold axv at h
 split at h
 .next u hu=>
  cases h
  obtain⟨h1,h2⟩:=axx f args _ hu
  refine⟨h1,λN w0 φ w aV hR ha=>(h2 φ aV w ha).mono λe w' he=>?_⟩
  obtain⟨cv,rfl,hb,hv⟩:=he
  exact⟨cv,rfl,φ,Ext.refl _ _,hR.below hb,hv φ,jp⟩
 .cases h
def anV{o:Option (V×St)}(h:isT o=true):∃J,o=some (.c (.bool true),J):=by
 unfold isT at h;split at h
 .next J=>exact⟨J,rfl⟩
 .cases h
end Go.Proofs.Xe
namespace Go.Proofs.Xe
open Go Go.RowKit Go.Proofs.Ins
noncomputable section
noncomputable def axy(f:Nat):Option AF:=tF Tryz.prog f
def ar9(f:Nat)(F:AF)(h:axy f=some F):Wq Tryz.prog f F=true:=by unfold axy at h;exact aef h
noncomputable def EKc:Env:=⟨axy,axv⟩
def axz:MP Tryz.prog EKc:=by
 refine⟨?_,?_⟩
 .intro f F h;unfold EKc at h;dsimp only at h;exact ar9 f F h
 .intro f args J v J' h;unfold EKc at h;exact ar8 f args J v J' h
end
end Go.Proofs.Xe
namespace Go.Proofs.Xe
open Go.RowKit Go.Proofs Go.Proofs.Ins
def aix:isT (iD EKc 2000 22 [] ⟨.leaf,0⟩)=true:=by kernel_rfl
def asa:WS 22:=by
 obtain⟨J,hσ⟩:=anV aix;refine⟨xu (by kernel_rfl),λw=>?_⟩;have hR:Rel w.heap.size w (λ_=>none) ⟨.leaf,0⟩ w:=by
  refine⟨jp,Below.refl _ _,λ_ _ _ _ h=>?_,λ_ _ h=>?_,λ_ _ _ _ h=>?_,λ_ _ _ _ h=>?_,λb _=>⟨rfl,?_⟩⟩
  .cases h
  .cases h
  .cases h
  .cases h
  .exact Tr.Eh b
 refine(KT axz (by kernel_rfl) hσ hR (aV:=#[]) trivial).mono λe w' he=>?_;obtain⟨cv,rfl,φ',-,hR',hv,-⟩:=he;have hv:cv=.bool true:=hv;exact⟨by rw[hv],hR'.bel⟩
end Go.Proofs.Xe
namespace Go.Proofs.Xe
open Go.RowKit Go.Proofs.Ins
def aiy{W:World}{nm:Nat}{v2 v3 v4 v5 v6:Value}(hnm:nm<=255){n2 n3 n4 n5 n6:Nat}{M:Nat->Nat}{L P D:Nat->Nat->Nat}(h2:HL (St.of W).h 1 (zX W.heap.size v2) n2 λi=>[.int .u16 (.ofNat (M i))])(hM:∀i,i<n2->M i<=65535)
  (h3:HL (St.of W).h 4 (zX W.heap.size v3) n3 λi=>[.int .u16 (.ofNat (L i 0)),.int .u16 (.ofNat (L i 1)),.int .u16 (.ofNat (L i 2)),.int .u16 (.ofNat (L i 3))]) (hL:∀i j,i<n3->L i j<=65535) (hn3:n3<=140737488351232)
  (h4:HL (St.of W).h 3 (zX W.heap.size v4) n4 λi=>[.int .u16 (.ofNat (P i 0)),.int .u16 (.ofNat (P i 1)),.int .u16 (.ofNat (P i 2))]) (hP:∀i j,i<n4->P i j<=65535) (hn4:n4<=140737488351232)
  (h5:HL (St.of W).h 3 (zX W.heap.size v5) n5 λi=>[.int .u16 (.ofNat (D i 0)),.int .u16 (.ofNat (D i 1)),.int .u16 (.ofNat (D i 2))]) (hD:∀i j,i<n5->D i j<=65535) (hn5:n5<=140737488351232)
  {Z:Nat->Nat}(h6:HL (St.of W).h 1 (zX W.heap.size v6) n6 λi=>[.int .u16 (.ofNat (Z i))]) (hZ:∀i,i<n6->Z i<=65535):
  Calls Tryz.prog 6 #[.int .u8 (nm:Int),v2,v3,v4,v5,v6] W λe w'=>e=.returned (.bool true)/\Below W.heap.size W w':=
 avy (abl (WF.of W) hnm M L P D h2 hM h3 hL jb h4 hP jb h5 hD jb Z h6 hZ λs hs=>by rw[ahc asa];exact⟨rfl,Fr.refl hs⟩) ⟨rfl,Gj _ _ h2.kn,Gj _ _ h3.kn,Gj _ _ h4.kn,Gj _ _ h5.kn,Gj _ _ h6.kn,trivial⟩
end Go.Proofs.Xe
namespace Go.Proofs.Xe
open Go Go.RowKit Go.ChangeShapes Go.WideShapes Go.ChangeAt Go.Proofs.Ins Go.Proofs.YtodnohicahohdaaGreatDoor
theorem plain_lifted(os:Os)(started:os.Started)(H:Type)(enc:TypeId×Value->H):
  ReturnsInHanded {} Tryz.checked os 6 .any (λw args=>(Rows.dividendPlainSpec.pre enc Tryz.prog Tryz.f6 [] false w args/\laidMetH Tryz.prog ad5 w)/\sizedMet enc Tryz.prog Tryz.f6 (OpenSpec.ofChange Rows.dividendPlainSpec) false w args)
   (Rows.dividendPlainSpec.post enc Tryz.prog Tryz.f6 false true false false):=by
 refine returnsInHanded_of_change_and (C:=Tryz.checked) (X:=λw _=>laidMetH Tryz.prog ad5 w) (λ_ _ _ hh h=>h.of_heap hh) own' started (by kernel_rfl) Tryz.func6
  (ChangeSpec.witness_shaped (enc:=enc) (C:=Tryz.checked) (os:=os) (X:=λw _=>laidMetH Tryz.prog ad5 w) false (World.laidAll Tryz.prog os ad5) #[.int .u8 0,.slice none 0 0,.slice none 0 0,.slice none 0 0,.slice none 0 0,.slice none 0 0] 8 (World.laidAll_os _ _ _)
   (World.shaped_of_ZipB (by kernel_rfl) (by kernel_rfl)) (by kernel_rfl) (by kernel_rfl) (by kernel_rfl)
   (by rw[MakeChecks.laidMetH_plain _ _ _ (by kernel_rfl)];exact laidMet_laidAll _ (by kernel_rfl) (by kernel_rfl))) ?_
 intro W base args ds gs before hval0 hW hc hsz hL _
 have hval:∀(j:Nat) t v,Tryz.f6.params[j]?=some t->args[j]?=some v->Value.okWide Tryz.prog W .any base t v:=hval0
 have hW':=hW
 obtain⟨p,q,hA0,hV,rfl,_,_⟩:=hW
 have hA:DataW.TrodAll enc Tryz.prog W 0 (λ_=>true) true Tryz.f6.params.toList args.toList ds p:=hA0
 have hsz1:(DataW.weightsEach Tryz.prog (Tryz.f6.params.toList++Rows.dividendPlainSpec.plain.varTypes Tryz.prog) (ds++gs)).all (·<=reachBytes)=true:=hsz
 obtain⟨rfl,rfl⟩:=trodVars_none hV
 rw[Tryz.params6]at hsz1 hval hA
 clear hA0 hval0 hsz hc hL hV
 obtain⟨v1,vs1,d1,ds1,p1,q1,e1,rfl,rfl,h1,hA⟩:=trodAll_cons hA
 obtain⟨v2,vs2,d2,ds2,p2,q2,rfl,rfl,rfl,h2,hA⟩:=trodAll_cons hA
 obtain⟨v3,vs3,d3,ds3,p3,q3,rfl,rfl,rfl,h3,hA⟩:=trodAll_cons hA
 obtain⟨v4,vs4,d4,ds4,p4,q4,rfl,rfl,rfl,h4,hA⟩:=trodAll_cons hA
 obtain⟨v5,vs5,d5,ds5,p5,q5,rfl,rfl,rfl,h5,hA⟩:=trodAll_cons hA
 obtain⟨v6,vs6,d6,ds6,p6,q6,rfl,rfl,rfl,h6,hA⟩:=trodAll_cons hA
 obtain⟨rfl,rfl,rfl⟩:=trodAll_nil hA
 obtain rfl:args= #[v1,v2,v3,v4,v5,v6]:=by rw[<-Array.toArray_toList (xs:=args),e1]
 clear hA e1
 obtain⟨D1,rfl,b1⟩:=aBw (hval 0 _ _ rfl rfl) h1
 obtain⟨a2,n2,c2,f2,rfl,o2⟩:=Bv Tryz.underlying22 (hval 1 _ _ rfl rfl) h2
 obtain⟨w2,m2,D2,e2,l2,s2,b2⟩:=akt o2 (Bo hsz1 (j:=1) rfl rfl)
 obtain rfl:w2=.slice a2 n2 c2:=by simpa using e2.symm
 obtain⟨a3,n3,c3,f3,rfl,o3⟩:=Bv Tryz.underlying23 (hval 2 _ _ rfl rfl) h3
 obtain⟨w3,m3,D3,e3,l3,s3,b3⟩:=avd o3 (Bo hsz1 (j:=2) rfl rfl)
 obtain rfl:w3=.slice a3 n3 c3:=by simpa using e3.symm
 obtain⟨a4,n4,c4,f4,rfl,o4⟩:=Bv Tryz.underlying24 (hval 3 _ _ rfl rfl) h4
 obtain⟨w4,m4,D4,e4,l4,s4,b4⟩:=aep o4 (Bo hsz1 (j:=3) rfl rfl)
 obtain rfl:w4=.slice a4 n4 c4:=by simpa using e4.symm
 obtain⟨a5,n5,c5,f5,rfl,o5⟩:=Bv Tryz.underlying24 (hval 4 _ _ rfl rfl) h5
 obtain⟨w5,m5,D5,e5,l5,s5,b5⟩:=aep o5 (Bo hsz1 (j:=4) rfl rfl)
 obtain rfl:w5=.slice a5 n5 c5:=by simpa using e5.symm
 obtain⟨a6,n6,c6,f6,rfl,o6⟩:=Bv Tryz.underlying22 (hval 5 _ _ rfl rfl) h6
 obtain⟨w6,m6,D6,e6,l6,s6,b6⟩:=akt o6 (Bo hsz1 (j:=5) rfl rfl)
 obtain rfl:w6=.slice a6 n6 c6:=by simpa using e6.symm
 exact aiZ rfl rfl rfl (by kernel_rfl) hW' (aiy b1 s2 b2 s3 b3 l3 s4 b4 l4 s5 b5 l5 s6 b6)
end Go.Proofs.Xe
