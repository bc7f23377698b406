/- guarantee: anY; clearing: pick, clean; rational.Sum. -/
import Derived.Test.YtjonjhcaniinaaaGreatDoorZ34
set_option linter.unusedSimpArgs false
set_option linter.unusedVariables false
set_option maxHeartbeats 8000000
namespace Go.Proofs.Xe
open Go.RowKit Go.Proofs.Ins
/-! ### Functions whose code is run where they are called -/
theorem Fj {E:Env} {f:Nat} {args:List V} {σ:St} {F:AF} {K:V→St→Prop} (ho:E.orc f args σ=none) (hF:E.fns f=some F):aT E f args σ K=bY E F.body (ini args) σ (Yv F.res K):=by
 refine propext ⟨?_,dh ho hF⟩
 rintro ⟨n,v,σ',h1,h2⟩
 cases n with
 | zero=>simp only [fQ,reduceCtorEq] at h1
 | succ n =>
  rw [fQ] at h1
  unfold AP at h1
  rw [ho,hF] at h1
  dsimp only at h1
  rw [Uc] at h1
  dsimp only at h1
  unfold Ye at h1
  split at h1
  ·next tm τ e =>
   split at h1
   ·next u hu=>cases h1;exact ⟨n,_,tm,_,e,_,hu,h2⟩
   ·cases h1
  ·next tm τ e =>
   split at h1
   ·next u hu=>cases h1;exact ⟨n,_,tm,_,e,_,hu,h2⟩
   ·cases h1
  ·cases h1
section
variable (bV aX tm:Tr V) (σ:St) (res:List Rs) (pd:List fZ)
theorem adI (i:Nat) (us os:List Nat) (d:Option Nat) (g:Option (Nat×Bool)) (bytes:Nat) (z:List B) (a c:O) (l:List DO) (K:St→List Rs→List fZ→Prop) :
  oJ bV aX (⟨i,us,os,⟨d,g,.Et bytes z a c⟩⟩::l) σ res pd K=match G8 bV aX res us os with
   | some tm=>wF g tm (match AB (a.ev tm),AB (c.ev tm) with
    | some n,some m=>(bif Nat.ble n m && (Nat.ble (bytes*m) 281474976710656 && Nat.ble m 1073741824) then oJ bV aX l ⟨hset σ.h σ.ah ⟨rep z m,none⟩,σ.ah+1⟩ (⟨i,d,.c (.sl σ.ah 0 n (.ex m))⟩::res) (⟨i,⟨d,g,.Et bytes z a c⟩,tm,.c (.sl σ.ah 0 n (.ex m)),true,some σ.ah⟩::pd) K else False)
    | _,_=>False) (oJ bV aX l σ (⟨i,d,.tnil⟩::res) (⟨i,⟨d,g,.Et bytes z a c⟩,tm,.tnil,false,none⟩::pd) K)
   | none=>False:=by
 unfold oJ wF
 rw [pU]
 dsimp only
 cases G8 bV aX res us os with
 | none=>rfl
 | some tm =>
  dsimp only
  cases gate g tm with
  | none=>rfl
  | some b =>
   cases b with
   | true =>
    dsimp only [oI.kind,jG]
    generalize AB (a.ev tm)=X
    generalize AB (c.ev tm)=Y
    cases X with
    | none=>rfl
    | some n =>
     cases Y with
     | none=>rfl
     | some m =>
      dsimp only
      cases (Nat.ble n m && (Nat.ble (bytes*m) 281474976710656 && Nat.ble m 1073741824)) with
      | false=>rfl
      | true=>simp only [cond_true,jH]
   | false=>rfl
theorem Vj (i:Nat) (d:Option Nat) (g9:Option (Nat×Bool)) (bytes:Nat) (z:List B) (a c:O) (v:V) (b:Nat):again σ ⟨i,⟨d,g9,.Et bytes z a c⟩,tm,v,true,some b⟩=match AB (a.ev tm),AB (c.ev tm) with
  | some n,some m=>(bif Nat.ble n m && (Nat.ble (bytes*m) 281474976710656 && Nat.ble m 1073741824) then (match σ.h b with|some ⟨c,none⟩=>Eu c (rep z m)|_=>false) else false)
  | _,_=>false:=by
 unfold again
 dsimp only [cond_true,oI.kind,jG]
 generalize AB (a.ev tm)=X
 generalize AB (c.ev tm)=Y
 cases X with
 | none=>rfl
 | some n =>
  cases Y with
  | none=>rfl
  | some m =>
   dsimp only
   cases (Nat.ble n m && (Nat.ble (bytes*m) 281474976710656 && Nat.ble m 1073741824)) <;> rfl
end
theorem adJ (n:Nat) (f:Nat→Bool):(ones n fun i=>.bool (f i)).all B.kn=true:=Ut fun _=>rfl
attribute [go_sem] adI Vj adJ
theorem yK {E:Env} {a b:AC} {tm:Tr V} {σ:St} {Q:AX→Tr V→St→Prop} (P:Tr V→St→Prop) (h:bY E a tm σ fun e tm' σ'=>e = .normal∧P tm' σ') (h2 : ∀ tm' σ',P tm' σ'→bY E b tm' σ' Q):bY E (.seq a b) tm σ Q :=
 run_seq (h.mono (by rintro _ tm' σ' ⟨rfl,hp⟩;exact h2 _ _ hp))
theorem Rh {E:Env} {a b c:AC} {tm:Tr V} {σ:St} {Q:AX→Tr V→St→Prop} (P:Tr V→St→Prop) (h:bY E a tm σ (Ub E b fun e tm' σ'=>e = .normal∧P tm' σ')) (h2 : ∀ tm' σ',P tm' σ'→bY E c tm' σ' Q):bY E (.seq a (.seq b c)) tm σ Q :=
 run_seq (h.mono fun e tm' σ' he=>by
  cases e with
  | normal=>exact yK P he h2
  | exit i=>cases he.1
  | ret=>cases he.1)
theorem Ri {E:Env} {b:AC} {tm:Tr V} {σ:St} {Q:AX→Tr V→St→Prop} (h:bY E b tm σ Q):bY E .skip tm σ (Ub E b Q):=PU h
set_option maxRecDepth 10000 in
theorem ant {σ:St} (hW:WF σ) {p p' : Nat→Prop} {x1 x2 x3 C Av:B} {e:oU} (hC:nS p σ.h C e.c) (hA:gu p' σ.h Av e.a) (h1:x1.kn=true) (h2:x2.kn=true) (h3:x3.kn=true) {A:Nat} (hD:Eb A) (hO:adH A e) :
  aT EN 53 [.agg [x1,x2,x3,C,Av]] σ fun r σ'=>(∃ rv pv,r = .agg (jO e.c.length rv pv (oz e e.c.length))∧qQ (fun b=>σ.ah≤b∧b<σ'.ah) σ'.h rv pv (mM e))∧Fr σ σ':=by
 refine dh (oM.o _ _) oM.h ?_
 unfold oM
 dsimp only
 have hCk:=dw.kn hC
 have hAk:=hA.kn
 have Q5:=dw.len hC
 have hlenA:=hA.len
 have hnc:=hO.nc
 have hna:=hO.na
 have hFr:=Fr.refl hW
 simp (maxSteps:=9^9) (disch:=first|assumption|decide|omega) only [go_sem,z3,h1,h2,h3,hCk,hAk,Q5]
 refine bY.mono (Q:=fun ex tm σ'=>ex = .exit 0∧∃ bs,Tr.aj tm 1 = .c (.ptr σ.ah 0)∧Tr.aj tm 2 = .c (.ptr (σ.ah+1) 0)∧Tr.aj tm 3 = .c (.ptr (σ.ah+1+1+1) 0)
   ∧ σ'.h σ.ah=some ⟨[x1,x2,x3,C,Av],none⟩∧σ'.h (σ.ah+1)=some ⟨[.int .i64 (.ofNat 0),.aW,.aW,.bool (rn 0),.str (rs 0),.str (rd 0)],none⟩∧σ'.h (σ.ah+1+1+1)=some ⟨jO e.c.length (.sl (σ.ah+1+1) 0 8 (.ex 8)) .aW (oz e e.c.length),none⟩∧RkS σ' (σ.ah+1+1) bs e.c e.c.length (σ.ah+1+1+1+1)∧Fr σ σ'∧σ.ah+1+1+1+1≤σ'.ah)
  (aP (fun q tm σ'=>∃ k bs,q=e.c.length - k∧k≤e.c.length∧Tr.aj tm 1 = .c (.ptr σ.ah 0)∧Tr.aj tm 2 = .c (.ptr (σ.ah+1) 0)∧Tr.aj tm 3 = .c (.ptr (σ.ah+1+1+1) 0)∧Tr.aj tm 15 = .c C∧Tr.aj tm 16 = .c (.int .i64 (.ofNat e.c.length))∧Tr.aj tm 17 = .c (.int .i64 (.ofNat k))
   ∧ σ'.h σ.ah=some ⟨[x1,x2,x3,C,Av],none⟩∧σ'.h (σ.ah+1)=some ⟨[.int .i64 (.ofNat 0),.aW,.aW,.bool (rn 0),.str (rs 0),.str (rd 0)],none⟩∧σ'.h (σ.ah+1+1+1)=some ⟨jO e.c.length (.sl (σ.ah+1+1) 0 8 (.ex 8)) .aW (oz e k),none⟩∧RkS σ' (σ.ah+1+1) bs e.c k (σ.ah+1+1+1+1)∧Fr σ σ'∧σ.ah+1+1+1+1≤σ'.ah) e.c.length ?_ ?_) ?_
 ·refine ⟨0,fun _=>0,by omega,by omega,?_⟩
  simp (maxSteps:=9^9) (disch:=first|assumption|decide|omega) only [go_sem,z3,true_and]
  refine ⟨rfl,⟨?_,fun r hr=>rfl,fun r hr=>.inl rfl,fun r r' _ _ _=>.inl rfl⟩,fr,by omega⟩
  simp (disch:=omega) only [ak,au];rfl
 ·rintro q tm σ' ⟨k,bs,rfl,hk,t1,t2,t3,t15,t16,t17,q0,q1,q3,hR,hf,hnx⟩
  have hle:=hf.le
  simp (maxSteps:=9^9) (disch:=first|assumption|decide|omega) only [go_sem,z3,t1,t2,t3,t15,t16,t17,aV]
  refine aK (fun hlt=>?_) (fun hlt=>?_)
  ·obtain ⟨b5,o5,c5,rfl,-,dM⟩:=dw.pos hC (by omega)
   have dM:=hf.ld hW (dM k hlt)
   unfold c5B at dM
   have hfit:=yH (hO.fc k hlt) (by decide)
   have hz:=Sz.zero.two
   have hraw:rq (ix e.c k).a.n (ix e.c k).a.s (ix e.c k).a.d=(ix e.c k).a.q:=rfl
   obtain ⟨r,hr,hrk⟩:=hO.r k hlt
   have hqz:=IZ hD (hO.c k)
   have wI:=Fr.refl hf.wf
   have hrb:=hR.b
   have hlb:σ.ah+1+1+1<σ'.ah:=by omega
   unfold jO at q3
   simp (maxSteps:=9^9) (disch:=first|assumption|decide|omega) only [go_sem,z3,t1,t2,t3,t15,t16,t17,dM,hfit,hz,hraw,hrk,Rat.add_zero,aA q3]
   refine aT.st (Fr σ') (fr) fun oq=>?_
   have hsz:Sz (aU (yQ e.c r k)):=Oj (n:=e.c.length) hD (fun p hp=>by
    have:=IU (P:=BH A) (fun i _=>hO.c i) r k hk p hp
    exact ⟨.inr this.1,this.2⟩) (by have:=Fg e.c r k;omega)
   refine (akN oq.wf (hR.fr (by omega) oq) (by omega) (by have:=oq.le;omega) hr hrk (by omega) hsz hqz).mono ?_
   rintro _ σ6 ⟨⟨bs',hR6⟩,hlo,hW6,DF⟩
   have IJ:σ'.ah+1+1≤σ6.ah:=DF
   have hlr:=hR.l r hr
   have hk6 : ∀ b,b<σ.ah+1+1+1+1→b≠σ.ah+1+1→σ6.h b=σ'.h b:=fun b h1 h2=>by rw [hlo b (by show b<σ'.ah+1+1;omega) h2 (by omega)];exact oq.old b (by omega)
   have q06:=(hk6 _ (by omega) (by omega)).trans q0
   have q16:=(hk6 _ (by omega) (by omega)).trans q1
   have q36:=(hk6 _ (by omega) (by omega)).trans q3
   have q66:σ6.h (σ'.ah+1)=some ⟨[.bool (rn (ix e.c k).a.q),.str (rs (ix e.c k).a.q),.str (rd (ix e.c k).a.q)],none⟩:=(hlo _ (Nat.lt_succ_self _) (by omega) (by omega)).trans (au _ _ _)
   have hts:Sz (oz e k):=akO hD hO.c (by omega)
   have yS:Fr σ σ6:=⟨by omega,hW6,fun b hb=>by rw [hk6 b (by omega) (by omega)];exact hf.old b hb⟩
   simp (maxSteps:=9^9) (disch:=first|assumption|decide|omega) only [go_sem,z3,t1,t2,t3,t15,t16,t17,aA q36,aA q66,q36,bP q36]
   refine ⟨e.c.length - (k+1),by omega,k+1,bs',rfl,by omega,rfl,q06,q16,rfl,?_,fr,by omega⟩
   exact hR6.on (ak _ _ _ _ (by omega)) (fun b h1 _=>ak _ _ _ _ (by omega)) (Nat.le_refl _)
  ·have:k=e.c.length:=by omega
   subst this
   simp (maxSteps:=9^9) (disch:=first|assumption|decide|omega) only [go_sem,z3,true_and]
   exact ⟨bs,t1,t2,t3,q0,q1,q3,hR,hf,hnx⟩
 rintro _ tm σ2 ⟨rfl,bs,t1,t2,t3,q0,q1,q3,hR,hf,hnx⟩
 have hle:=hf.le
 unfold jO at q3
 simp (maxSteps:=9^9) (disch:=first|assumption|decide|omega) only [go_sem,z3,t1,t2,t3,aA q0,hAk,hlenA]
 refine bY.mono (Q:=fun ex tm σ'=>ex = .exit 2∧∃ pb M L,Tr.aj tm 2 = .c (.ptr (σ.ah+1) 0)∧Tr.aj tm 3 = .c (.ptr (σ.ah+1+1+1) 0)
   ∧ σ'.h (σ.ah+1+1+1)=some ⟨jO e.c.length (.sl (σ.ah+1+1) 0 8 (.ex 8)) (aN e.a.length pb) (oz e e.c.length),none⟩∧ahU M L e.c e.a σ'.h pb e.a.length σ2.ah σ'.ah∧fG [σ.ah+1+1+1] σ2 σ')
  (aP (fun q tm σ'=>∃ j pb M L,q=e.a.length - j∧j≤e.a.length∧Tr.aj tm 1 = .c (.ptr σ.ah 0)∧Tr.aj tm 2 = .c (.ptr (σ.ah+1) 0)∧Tr.aj tm 3 = .c (.ptr (σ.ah+1+1+1) 0)∧Tr.aj tm 41 = .c Av∧Tr.aj tm 42 = .c (.int .i64 (.ofNat e.a.length))∧Tr.aj tm 43 = .c (.int .i64 (.ofNat j))
   ∧ σ'.h (σ.ah+1+1+1)=some ⟨jO e.c.length (.sl (σ.ah+1+1) 0 8 (.ex 8)) (aN j pb) (oz e e.c.length),none⟩∧ahU M L e.c e.a σ'.h pb j σ2.ah σ'.ah∧fG [σ.ah+1+1+1] σ2 σ') e.a.length ?_ ?_) ?_
 ·refine ⟨0,σ2.ah,fun _=>.aW,fun _=>.aW,by omega,by omega,?_⟩
  simp (maxSteps:=9^9) (disch:=first|assumption|decide|omega) only [go_sem,z3,t1,t2,t3,true_and]
  exact ⟨q3,NF.nil (Vh _ _),fG.refl hf.wf⟩
 ·rintro q tm σ' ⟨j,pb,M,L,rfl,hj,t1,t2,t3,t41,t42,t43,q3,hN,hfe⟩
  have hle':=hfe.le
  simp (maxSteps:=9^9) (disch:=first|assumption|decide|omega) only [go_sem,z3,t1,t2,t3,t41,t42,t43,aV]
  refine aK (fun hlt=>?_) (fun hlt=>?_)
  ·obtain ⟨b5,o5,c5,rfl,T1,dM,hT⟩:=hA.at hlt
   have hf3:Fr σ σ':=hfe.to hf (by simp;omega)
   have dM:=hf3.ld hW dM
   have q0':=hfe.get hf.wf (by simp only [List.mem_singleton];omega) q0
   have ZN:=hT.kn
   have hlb:=hN.l1
   have anr:=hN.l2
   have wI:=Fr.refl hfe.wf
   unfold jO at q3
   simp (maxSteps:=9^9) (disch:=first|assumption|decide|omega) only [go_sem,z3,t1,t2,t3,t41,t42,t43,dM,ZN,aA q0',aA q3,h1,h2,h3,hCk,hAk]
   refine aT.st (Fr σ') (fr) fun oq=>?_
   have hf5:=hf3.trans oq
   refine (ano oq.wf (dw.fr hW hf5 hC) (hT.fr hW hf5) h1 h2 h3 hAk hD (hO.a j hlt)).mono ?_
   rintro _ σ6 ⟨⟨mv,lv,rfl,hM,hL⟩,yS⟩
   have Ei:=oq.trans yS
   have DF:σ'.ah+1≤σ6.ah:=yS.le
   have q36:=Ei.get hfe.wf q3
   have hMk:=dw.kn hM
   have hLk:=hL.kn
   have hN6:=NF.mono hN (fun j _=>Fh _ _ _ _ j) (fun b _ hb=>Ei.old b hb) (Nat.le_refl _)
   have hg6:=hN6.g
   have hLG:=Vh M L
   have akP:fG [σ.ah+1+1+1] σ2 σ6:=hfe.trans (Ei.ex _)
   simp (maxSteps:=9^9) (disch:=first|assumption|decide|omega) only [go_sem,z3,t1,t2,t3,t41,t42,t43,hMk,hLk,aA q36,q36,hg6,bP q36]
   refine ⟨e.a.length - (j+1),by omega,j+1,σ6.ah+1,aI M j mv,aI L j lv,rfl,by omega,rfl,rfl,?_,by repeat (first|assumption|exact fG.refl (by assumption)|exact fG.up (by assumption) (by first|omega|(dsimp only;omega))|exact fG.up (fG.refl (by assumption)) (by first|omega|(dsimp only;omega))|refine fG.set1 ?_ (by first|(left;omega)|(left;dsimp only;omega)|(right;simp)) (by first|omega|(dsimp only;omega))|refine fG.yN ?_ (by first|(left;omega)|(left;dsimp only;omega)|(right;simp))|refine fG.Ik ?_ (by first|(left;omega)|(left;dsimp only;omega)|(right;simp))|refine fG.ND ?_ (by first|omega|(dsimp only;omega)))⟩
   refine NF.push hN (fun j _=>Fh _ _ _ _ j) (fun i hi p h hq=>?_) (hi1:=σ6.ah) (h1:=σ6.h) ?_ (fun b _ hb=>Ei.old b hb) (by omega) (by omega) (by omega) (by omega) ?_ ?_ (fun c h1 h2 h3=>?_) (fun i hi=>?_) (Vh _ _) (x:=[mv,lv])
   ·unfold Xv at hq ⊢
    rw [aH _ _ _ _ (by omega),aH _ _ _ _ (by omega)];exact hq
   ·unfold Xv
    rw [aG,aG]
    exact ⟨dw.keep hM (fun _ _=>rfl) fun b hb=>⟨Nat.le_trans (Nat.le_succ _) hb.1,hb.2⟩,hL.keep (fun _ _=>rfl) fun b hb=>⟨Nat.le_trans (Nat.le_succ _) hb.1,hb.2⟩⟩
   ·rw [ak _ _ _ _ (by omega),au]
   ·rw [aG,aG]
   ·rw [ak _ _ _ _ (by omega),ak _ _ _ _ (by omega),gJ _ _ _ _ h3,ak _ _ _ _ (by omega)]
   ·rw [aH _ _ _ _ (by omega),aH _ _ _ _ (by omega)]
  ·have:j=e.a.length:=by omega
   subst this
   simp (maxSteps:=9^9) (disch:=first|assumption|decide|omega) only [go_sem,z3,true_and]
   exact ⟨pb,M,L,t2,t3,q3,hN,hfe⟩
 rintro _ tm σ3 ⟨rfl,pb,M,L,t2,t3,q3,hN,hfe⟩
 have hle':=hfe.le
 have hf3:Fr σ σ3:=hfe.to hf (by simp;omega)
 have q1':=hfe.get hf.wf (by simp) q1
 have hlb:=hN.l1
 unfold jO at q3
 simp (maxSteps:=9^9) (disch:=first|assumption|decide|omega) only [go_sem,z3,t2,t3,aA q3,EU,bP q1',q1']
 have hk : ∀ b,σ.ah+1<b→(hset σ3.h (σ.ah+1) ⟨[.int .i64 (.ofNat e.c.length),.sl (σ.ah+1+1) 0 8 (.ex 8),aN e.a.length pb,.bool (rn (oz e e.c.length)),.str (rs (oz e e.c.length)),.str (rd (oz e e.c.length))],none⟩) b=σ3.h b:=fun b hb=>ak _ _ _ _ (by omega)
 refine ⟨⟨_,_,rfl,?_,M,L,?_,fun i hi=>?_⟩,fr⟩
 ·refine ((hR.on (σ':=σ3) (hfe.old _ (by omega) (by simp)) (fun b h1 h2=>hfe.old b h2 (by simp;omega)) hle').akA (p:=fun b=>σ.ah+1<b∧b<σ3.ah) ⟨by omega,by omega⟩ fun b h1 h2=>⟨by omega,h2⟩).keep (fun b hb=>hk b hb.1) fun b hb=>⟨by omega,hb.2⟩
 ·show dw _ _ 2 _ (e.a.map (nK e.c)).length _
  rw [List.length_map]
  refine (NF.hlp (p:=fun b=>σ.ah+1<b∧b<σ3.ah) hN (by decide) (fun i hi=>?_) fun b h1 h2=>⟨by omega,h2⟩).keep (fun b hb=>hk b hb.1) fun b hb=>⟨by omega,hb.2⟩
  have:=hN.el (fun j _=>Fh M L e.c e.a j) hi
  simp only [List.all_cons,List.all_nil,dw.kn this.1,this.2.kn,Bool.and_self]
 ·have hi:i<(e.a.map (nK e.c)).length:=hi
  rw [List.length_map] at hi
  have:=hN.el (fun j _=>Fh M L e.c e.a j) hi
  show U2 _ _ _ (ix (e.a.map (nK e.c)) i).1∧sH _ _ _ (ix (e.a.map (nK e.c)) i).2
  rw [QS _ hi]
  exact ⟨dw.keep this.1 (fun b hb=>hk b (by omega)) fun b hb=>⟨by omega,hb.2⟩,this.2.keep (fun b hb=>hk b (by omega)) fun b hb=>⟨by omega,hb.2⟩⟩
abbrev oC (p:Nat→Prop) (h:Tr Bk) (v:B) (k:Nat) (f:Nat→Rat):Prop:=dw p h 3 v k fun c=>kC (f c)
def oW (p:Nat→Prop) (h:Tr Bk) (v:B) (n:Nat) (k:Nat→Nat) (f:Nat→Nat→Rat):Prop:=∃ T:Nat→B,dw p h 1 v n (fun i=>[T i])∧∀ i,i<n→oC p h (T i) (k i) (f i)
section
variable {p q:Nat→Prop} {h h' : Tr Bk} {v:B} {n:Nat} {k:Nat→Nat} {f f' : Nat→Nat→Rat}
theorem dw.at3 {m:Nat} {f:Nat→Rat} (hl:oC p h v m f) {c:Nat} (hc:c<m) : ∃ b o cc,v = .sl b o m cc∧p b∧ld h b (o+c*3) 3 true=some (.agg [.bool (rn (f c)),.str (rs (f c)),.str (rd (f c))]):=by
 obtain ⟨b,o,cc,e,hp,hld⟩:=dw.pos hl (by omega)
 exact ⟨b,o,cc,e,hp,hld c hc⟩
theorem oW.at (hr:oW p h v n k f) {i:Nat} (hi:i<n) : ∃ b o c T,v = .sl b o n c∧p b∧ld h b (o+i*1) 1 false=some (.c T)∧oC p h T (k i) (f i):=by
 obtain ⟨T,h1,h2⟩:=hr
 obtain ⟨b,o,c,e,hp,hld⟩:=h1.pos (by omega)
 exact ⟨b,o,c,T i,e,hp,(vO (hld i hi)).1,h2 i hi⟩
theorem oW.keep (hr:oW p h v n k f) (hk : ∀ b,p b→h' b=h b) (hp : ∀ b,p b→q b):oW q h' v n k f:=by
 obtain ⟨T,h1,h2⟩:=hr
 exact ⟨T,h1.keep hk hp,fun i hi=>dw.keep (h2 i hi) hk hp⟩
theorem oW.kn (hr:oW p h v n k f):v.kn=true:=hr.choose_spec.1.kn
end
/-! ### Rows of one's own, in a list of one's own -/
def adK (T:Nat→B) (k:Nat→Nat) (f:Nat→Nat→Rat) (p:Nat→Prop) (h:Tr Bk) (i:Nat):Prop:=oC p h (T i) (k i) (f i)
theorem Vk (T:Nat→B) (k:Nat→Nat) (f:Nat→Nat→Rat) (j:Nat):QK (adK T k f) j:=fun _ _ _ _ hp hk hq=>dw.keep hp hk hq
section
variable {T:Nat→B} {k:Nat→Nat} {f:Nat→Nat→Rat} {h h' : Tr Bk} {b n ty lo hi:Nat}
end
end Go.Proofs.Xe
namespace Go.Proofs.Ins
def oQ (W:Rat) (q:kH→Rat):Rat→List kH→kH→Rat
 | _,[],_=>0
 | Q,a::t,l=>(if a=l then jX (Q+q a - W) - jX (Q - W) else 0)+oQ W q (Q+q a) t l
def qV (g:GL) (x:Nat→Rat) (l:kH):Rat:=aO g.ds fun d=>oQ d.1 (gq g x) 0 d.2 l
def DI (g:GL) (x:Nat→Rat) (l:kH):Rat:=gq g x l - qV g x l
theorem DJ (W:Rat) (q:kH→Rat) (Q:Rat) (a:kH) (t:List kH) (l:kH):oQ W q Q (a::t) l=(if a=l then jX (Q+q a - W) - jX (Q - W) else 0)+oQ W q (Q+q a) t l:=rfl
theorem Oo {W:Rat} {q:kH→Rat} {l:kH} : ∀ {t:List kH} {Q:Rat},l∉t→oQ W q Q t l=0
 | [],_,_=>rfl
 | a::t,Q,h=>by
  unfold oQ
  rw [if_neg (fun e=>h (by simp [e])),Oo (fun hl=>h (by simp [hl]))]
  exact Rat.add_zero 0
theorem Lp {W:Rat} {q:kH→Rat} {l a:kH} : ∀ {t:List kH} {Q:Rat},oQ W q Q (t ++ [a]) l=oQ W q Q t l+if a=l then jX (Q+aO t q+q a - W) - jX (Q+aO t q - W) else 0
 | [],Q=>by
  show (if a=l then jX (Q+q a - W) - jX (Q - W) else 0)+0=0+if a=l then jX (Q+0+q a - W) - jX (Q+0 - W) else 0
  rw [Rat.add_zero Q];grind
 | b::t,Q=>by
  rw [List.cons_append]
  unfold oQ
  rw [Lp]
  show _=_+if a=l then jX (Q+(q b+aO t q)+q a - W) - jX (Q+(q b+aO t q) - W) else 0
  rw [show Q+(q b+aO t q)=Q+q b+aO t q by grind]
  grind
section
variable {n:Nat} {g:GL}
theorem Rj {k:Nat→Nat} {a:kH} (h1:a.1<n) (h2:a.2<k a.1) (F:Nat→Nat→Rat):aC n (fun i=>aC (k i) fun c=>if a=(i,c) then F i c else 0)=F a.1 a.2:=by
 rw [kR h1 fun i _ hne=>dF fun c _=>if_neg fun e=>hne (by rw [e]),kR h2 fun c _ hne=>if_neg fun e=>hne (by rw [e]),if_pos rfl]
theorem Xw {k:Nat→Nat} {W:Rat} {q:kH→Rat} (j:Nat) : ∀ (t:List kH) (Q:Rat),(∀ l∈t,l.1<n∧l.2<k l.1)→aC n (fun i=>aC (k i) fun c=>if i=j then oQ W q Q t (i,c) else 0)=wH W q Q t j
 | [],Q,_=>by
  unfold wH
  exact dF fun i _=>dF fun c _=>by unfold oQ;split <;> rfl
 | a::t,Q,h=>by
  have h1:=h a (by simp)
  have e:aC n (fun i=>aC (k i) fun c=>if i=j then oQ W q Q (a::t) (i,c) else 0)=aC n (fun i=>aC (k i) fun c=>if a=(i,c) then (if i=j then jX (Q+q a - W) - jX (Q - W) else 0) else 0)+aC n fun i=>aC (k i) fun c=>if i=j then oQ W q (Q+q a) t (i,c) else 0:=by
   rw [← dN]
   refine bI fun i _=>?_
   rw [← dN]
   refine bI fun c _=>?_
   rw [DJ]
   split <;> split <;> grind
  rw [e,Rj h1.1 h1.2,Xw j t _ fun l hl=>h l (by simp [hl])]
  exact (show wH W q Q (a::t) j=_ from rfl).symm
theorem Rk {k:Nat→Nat} {hf:Nat→Nat→Int} {W:Rat} {q:kH→Rat} (j:Nat) (hd:Int) : ∀ (t:List kH) (Q:Rat),(∀ l∈t,l.1<n∧l.2<k l.1)→(∀ l∈t,hf l.1 l.2=hd)→aC n (fun i=>aC (k i) fun c=>if hf i c=(j:Int) then oQ W q Q t (i,c) else 0)=if hd=(j:Int) then jX (Q+aO t q - W) - jX (Q - W) else 0
 | [],Q,_,_=>by
  rw [dF fun i _=>dF fun c _=>by unfold oQ;split <;> rfl]
  show 0=if hd=(j:Int) then jX (Q+0 - W) - jX (Q - W) else 0
  rw [Rat.add_zero]
  split <;> grind
 | a::t,Q,h,hh=>by
  have h1:=h a (by simp)
  have h2:=hh a (by simp)
  have e:aC n (fun i=>aC (k i) fun c=>if hf i c=(j:Int) then oQ W q Q (a::t) (i,c) else 0)=aC n (fun i=>aC (k i) fun c=>if a=(i,c) then (if hf i c=(j:Int) then jX (Q+q a - W) - jX (Q - W) else 0) else 0)+aC n fun i=>aC (k i) fun c=>if hf i c=(j:Int) then oQ W q (Q+q a) t (i,c) else 0:=by
   rw [← dN]
   refine bI fun i _=>?_
   rw [← dN]
   refine bI fun c _=>?_
   rw [DJ]
   split <;> split <;> grind
  rw [e,Rj h1.1 h1.2 fun i c=>if hf i c=(j:Int) then jX (Q+q a - W) - jX (Q - W) else 0,Rk j hd t _ (fun l hl=>h l (by simp [hl])) fun l hl=>hh l (by simp [hl]),h2]
  show _=if hd=(j:Int) then jX (Q+(q a+aO t q) - W) - jX (Q - W) else 0
  rw [show Q+(q a+aO t q)=Q+q a+aO t q by grind]
  split <;> grind
def akQ (g:GL):Prop:=∀ d∈g.ds,∀ l∈d.2,g.h l.1 l.2=Jk g d
theorem akR (hg:GOk n g) (hh:akQ g) (x:Nat→Rat) (j:Nat):aC n (fun i=>aC (g.k i) fun c=>(if i=j then qV g x (i,c) else 0)+if g.h i c=(j:Int) then DI g x (i,c) else 0)=gG n g x j:=by
 have hr : ∀ d∈g.ds,∀ l∈d.2,l.1<n∧l.2<g.k l.1:=fun d hd l hl=>hg.dP l (List.mem_flatMap.mpr ⟨d,hd,hl⟩)
 have a1:aC n (fun i=>aC (g.k i) fun c=>if i=j then qV g x (i,c) else 0)=aO g.ds fun d=>wH d.1 (gq g x) 0 d.2 j:=by
  rw [jD fun d hd=>(Xw (k:=g.k) (W:=d.1) (q:=gq g x) j d.2 0 (hr d hd)).symm,← qx g.ds fun d i=>aC (g.k i) fun c=>if i=j then oQ d.1 (gq g x) 0 d.2 (i,c) else 0]
  refine bI fun i _=>?_
  rw [← qx g.ds fun d c=>if i=j then oQ d.1 (gq g x) 0 d.2 (i,c) else 0]
  refine bI fun c _=>?_
  by_cases e:i=j
  ·simp only [if_pos e];rfl
  ·simp only [if_neg e];exact (nI fun _ _=>rfl).symm
 have a2:aC n (fun i=>aC (g.k i) fun c=>if g.h i c=(j:Int) then qV g x (i,c) else 0)=aO g.ds fun d=>if Jk g d=(j:Int) then jX (0+aO d.2 (gq g x) - d.1) - jX (0 - d.1) else 0:=by
  rw [jD fun d hd=>(Rk (k:=g.k) (hf:=g.h) (W:=d.1) (q:=gq g x) j (Jk g d) d.2 0 (hr d hd) (hh d hd)).symm,← qx g.ds fun d i=>aC (g.k i) fun c=>if g.h i c=(j:Int) then oQ d.1 (gq g x) 0 d.2 (i,c) else 0]
  refine bI fun i _=>?_
  rw [← qx g.ds fun d c=>if g.h i c=(j:Int) then oQ d.1 (gq g x) 0 d.2 (i,c) else 0]
  refine bI fun c _=>?_
  by_cases e:g.h i c=(j:Int)
  ·simp only [if_pos e];rfl
  ·simp only [if_neg e];exact (nI fun _ _=>rfl).symm
 have a3:aC n (fun i=>aC (g.k i) fun c=>if g.h i c=(j:Int) then gq g x (i,c) else 0)=aC n (fun i=>aC (g.k i) fun c=>if EI g j i c then gq g x (i,c) else 0)+aO g.ds fun d=>if Jk g d=(j:Int) then aO d.2 (gq g x) else 0:=by
  have b1:aO g.ds (fun d=>if Jk g d=(j:Int) then aO d.2 (gq g x) else 0)=aO g.dP fun l=>if g.h l.1 l.2=(j:Int) then gq g x l else 0:=by
   unfold GL.dP
   rw [IQ]
   refine jD fun d hd=>?_
   by_cases e:Jk g d=(j:Int)
   ·rw [if_pos e];exact jD fun l hl=>by rw [hh d hd l hl,if_pos e]
   ·rw [if_neg e];exact (nI fun l hl=>by rw [hh d hd l hl,if_neg e]).symm
  rw [b1,← IL (n:=n) (g:=g) (fun l=>if g.h l.1 l.2=(j:Int) then gq g x l else 0) g.dP hg.nodup hg.dP,← dN]
  refine bI fun i _=>?_
  rw [← dN]
  refine bI fun c _=>?_
  unfold EI
  by_cases e1:(i,c)∈g.dP
  ·by_cases e2:g.h i c=(j:Int)
   ·simp [e1,e2];grind
   ·simp [e1,e2];grind
  ·by_cases e2:g.h i c=(j:Int)
   ·simp [e1,e2];grind
   ·simp [e1,e2];grind
 have e:aC n (fun i=>aC (g.k i) fun c=>(if i=j then qV g x (i,c) else 0)+if g.h i c=(j:Int) then DI g x (i,c) else 0)=aC n (fun i=>aC (g.k i) fun c=>if i=j then qV g x (i,c) else 0)+(aC n (fun i=>aC (g.k i) fun c=>if g.h i c=(j:Int) then gq g x (i,c) else 0) - aC n fun i=>aC (g.k i) fun c=>if g.h i c=(j:Int) then qV g x (i,c) else 0):=by
  rw [← kP,← dN]
  refine bI fun i _=>?_
  rw [← kP,← dN]
  refine bI fun c _=>?_
  unfold DI
  split <;> split <;> grind
 rw [e,a1,a2,a3]
 unfold gG
 have:aO g.ds (dG g x j)=aO g.ds (fun d=>wH d.1 (gq g x) 0 d.2 j)+(aO g.ds (fun d=>if Jk g d=(j:Int) then aO d.2 (gq g x) else 0) - aO g.ds fun d=>if Jk g d=(j:Int) then jX (0+aO d.2 (gq g x) - d.1) - jX (0 - d.1) else 0):=by
  rw [← Bv,← acX]
  refine jD fun d hd=>?_
  have h0:=hg.pos d hd
  unfold dG
  rw [Rat.zero_add]
  have h1:jX (0 - d.1)=0:=by unfold jX;split <;> grind
  rw [h1]
  split
  ·unfold mF jX;split <;> split <;> grind
  ·grind
 rw [this];grind
end
theorem Xx {g:iy} (h:GZ g):akQ (mV g):=by
 intro d hd l hl
 obtain ⟨d',hd',rfl⟩:=List.mem_map.mp hd
 obtain ⟨j,hj,rfl⟩:=List.getElem_of_mem hd'
 obtain ⟨x,hx,rfl⟩:=List.mem_map.mp hl
 obtain ⟨k,hk,rfl⟩:=List.getElem_of_mem hx
 rw [← dV hj] at hk
 have h1:=(h.l j hj).2.2 k hk
 obtain ⟨a,b,e1,-,-,-,h2⟩:=h1
 have e2:Jk (mV g) ((ix g.d j).w.q,(ix g.d j).l.map yZ)=holdL g.e (ix (ix g.d j).l 0):=by
  unfold Jk
  cases hL:(ix g.d j).l with
  | nil=>rw [hL] at hk;simp at hk
  | cons y t=>rfl
 simp only [← dV hj]
 rw [e2,← h2,← dV hk]
 rfl
end Go.Proofs.Ins
namespace Go.Proofs.Xe
open Go.RowKit Go.Proofs.Ins
theorem Xy {a b:Rat} : 0≤ku a b↔b≤a:=by
 rw [← Int.not_lt,uY];grind
theorem akS (p:Rat):yL p 0=jX p:=by
 unfold yL jX
 by_cases h:0≤p
 ·rw [if_pos h,if_pos (Xy.mpr h)]
 ·rw [if_neg h,if_neg fun e=>h (Xy.mp e)]
theorem adL {p:Rat} (h:0≤p):jX p=p:=if_pos h
def ZP (W:Rat) (q:Nat→Rat) (k:Nat):Rat:=jX (aC (k+1) q - W) - jX (aC k q - W)
def adM (σ σ' : St) (r:V) (n:Nat) (f:Nat→Rat):Prop:=∃ b,r = .c (.sl b 0 n (.ex n))∧σ'.h b=some ⟨eP n f,none⟩∧σ.ah≤b∧b<σ'.ah
theorem Zk.anu {D:Nat} {f:Nat→Rat} : ∀ {n:Nat},(∀ i,i<n→Zk D 1 (f i))→Zk D n (aC n f)
 | 0,_=>Zk.zero
 | n+1,h=>(Zk.anu fun i hi=>h i (by omega)).add (h n (by omega))
theorem Zk.pq {D k:Nat} {q:Rat} (h:Zk D k q):Zk D k (jX q):=by
 unfold jX
 split
 ·exact h
 ·exact Zk.zero.mono (Nat.zero_le _)
theorem akT:1000000≤256 ^ uK:=Nat.le_trans (by decide:1000000≤256 ^ 3) (Nat.pow_le_pow_right (by decide) (by decide))
set_option maxRecDepth 10000 in
theorem ZQ {σ:St} (hW:WF σ) {p:Nat→Prop} {wn:Bool} {ws wd:ByteArray} {W:Rat} (hw:rq wn ws wd=W) (hws:ws.size+wd.size≤130000000) {v:B} {m:Nat} {q:Nat→Rat} (hv:oC p σ.h v m q) (hm:m≤1000) (hq : ∀ k,k<m→0≤q k) (h0:0≤W) {D:Nat} (hD:Eb D) (hWz:Zk D 1 W) (hqz : ∀ k,k<m→Zk D 1 (q k)) :
  aT EN 59 [.agg [.bool wn,.str ws,.str wd],.c v] σ fun r σ'=>adM σ σ' r m (ZP W q)∧Fr σ σ':=by
 refine dh (kG.o _ _) kG.h ?_
 unfold kG
 dsimp only
 have hlen:=dw.len hv
 have hFr:=Fr.refl hW
 have hu:=akT
 have hp:=fun (args:List V) (σ:St) (K:V→St→Prop)=>Fj (E:=EN) (K:=K) (jW.o args σ) jW.h
 unfold jW at hp
 dsimp only at hp
 simp (maxSteps:=9^9) (disch:=first|assumption|decide|omega) only [go_sem,z3,hlen]
 refine aP (fun x tm σ'=>∃ k,x=m - k∧k≤m∧Tr.aj tm 2 = .c (.ptr σ.ah 0)∧Tr.aj tm 5 = .c (.sl (σ.ah+1) 0 m (.ex m))∧Tr.aj tm 6 = .c (.ptr (σ.ah+1+1) 0)∧Tr.aj tm 7 = .c (.ptr (σ.ah+1+1+1) 0)∧Tr.aj tm 16 = .c v∧Tr.aj tm 17 = .c (.int .i64 (.ofNat m))∧Tr.aj tm 18 = .c (.int .i64 (.ofNat k))
  ∧ σ'.h σ.ah=some ⟨[.bool wn,.str ws,.str wd],none⟩∧σ'.h (σ.ah+1)=some ⟨eP m (fun i=>if i<k then ZP W q i else 0),none⟩∧σ'.h (σ.ah+1+1)=some ⟨[.bool (rn (aC k q)),.str (rs (aC k q)),.str (rd (aC k q))],none⟩∧σ'.h (σ.ah+1+1+1)=some ⟨[.bool (rn (jX (aC k q - W))),.str (rs (jX (aC k q - W))),.str (rd (jX (aC k q - W)))],none⟩
  ∧ Fr σ σ'∧σ.ah+1+1+1+1≤σ'.ah) m ?_ ?_
 ·refine ⟨0,by omega,by omega,?_⟩
  have e0:jX (0 - W)=0:=by unfold jX;split <;> grind
  simp (maxSteps:=9^9) (disch:=first|assumption|decide|omega) only [go_sem,z3,true_and]
  refine ⟨?_,rfl,?_,fr,by omega⟩
  ·rw [xZ]
  ·show _=some (Bk.mk [.bool (rn (jX (0 - W))),.str (rs (jX (0 - W))),.str (rd (jX (0 - W)))] none)
   rw [e0]
 ·rintro x tm σ' ⟨k,rfl,hk,t2,t5,t6,t7,t16,t17,yO,q2,q5,q6,q7,hf,hnx⟩
  have hle:=hf.le
  simp (maxSteps:=9^9) (disch:=first|assumption|decide|omega) only [go_sem,z3,t2,t5,t6,t7,t16,t17,yO,aV]
  refine aK (fun hlt=>?_) (fun hlt=>?_)
  ·obtain ⟨b5,o5,c5,rfl,-,dM⟩:=dw.at3 hv hlt
   have dM:=hf.ld hW dM
   have hqk:=hq k hlt
   have hzk:=hqz k hlt
   have hzs:Zk D k (aC k q):=Zk.anu fun i hi=>hqz i (by omega)
   have z1:Sz (q k):=hzk.sz hD (by omega)
   have z2:Sz (aC k q):=hzs.sz hD (by omega)
   have z3':=(hzs.add hzk)
   have z4:Sz (aC k q+q k):=z3'.sz hD (by omega)
   have z5:Sz W:=hWz.sz hD (by omega)
   have z6:Sz (aC k q+q k - W):=(z3'.sub hWz).sz hD (by omega)
   have z7:Sz (jX (aC k q+q k - W)):=(z3'.sub hWz).pq.sz hD (by omega)
   have z8:Sz (jX (aC k q - W)):=(hzs.sub hWz).pq.sz hD (by omega)
   have z9:=Sz.zero
   have z10:=Sz.zero.two
   have e1:jX (q k)=q k:=adL hqk
   have e2:jX W=W:=adL h0
   have wI:=Fr.refl hf.wf
   simp (maxSteps:=9^9) (disch:=first|assumption|decide|omega) only [go_sem,z3,t2,t5,t6,t7,t16,t17,yO,dM,aA q2,aA q6,bP q6,aA q7,bP q7,bP q5,q5,q6,q7,akS,e1,e2,hw,hp]
   refine ⟨m - (k+1),by omega,k+1,rfl,by omega,rfl,q2,?_,rfl,rfl,fr,by omega⟩
   exact congrArg (fun l=>some (Bk.mk l none)) (uN m k (ZP W q))
  ·have:k=m:=by omega
   subst this
   simp (maxSteps:=9^9) (disch:=first|assumption|decide|omega) only [go_sem,z3,t5]
   exact ⟨⟨_,rfl,by rw [q5,BJ],by omega,by omega⟩,hf⟩
set_option maxRecDepth 10000 in
theorem akU {σ:St} (hW:WF σ) {p p' : Nat→Prop} {w1 w2 w3 L lv:B} {dP:List Ins.Lg} {n:Nat} {kk:Nat→Nat} {f:Nat→Nat→Rat} (hL:Bf p σ.h L dP) (hR:oW p' σ.h lv n kk f) (h1:w1.kn=true) (h2:w2.kn=true) (h3:w3.kn=true) (hl:dP.length≤1000) (adN : ∀ j,j<dP.length→∃ e c:Nat,ix dP j=⟨.ofNat e,.ofNat c⟩∧e<n∧c<kk e) :
  aT EN 60 [.agg [w1,w2,w3,L],.c lv] σ fun r σ'=>adM σ σ' r dP.length (fun j=>f (yZ (ix dP j)).1 (yZ (ix dP j)).2)∧Fr σ σ':=by
 refine dh (oO.o _ _) oO.h ?_
 unfold oO
 dsimp only
 have hlen:=dw.len hL
 have hLk:=dw.kn hL
 have hFr:=Fr.refl hW
 simp (maxSteps:=9^9) (disch:=first|assumption|decide|omega) only [go_sem,z3,hlen,hLk,h1,h2,h3]
 refine aP (fun x tm σ'=>∃ j,x=dP.length - j∧j≤dP.length∧Tr.aj tm 1 = .c lv∧Tr.aj tm 5 = .c (.sl (σ.ah+1) 0 dP.length (.ex dP.length))∧Tr.aj tm 13 = .c L∧Tr.aj tm 14 = .c (.int .i64 (.ofNat dP.length))∧Tr.aj tm 15 = .c (.int .i64 (.ofNat j))
  ∧ σ'.h (σ.ah+1)=some ⟨eP dP.length (fun i=>if i<j then f (yZ (ix dP i)).1 (yZ (ix dP i)).2 else 0),none⟩∧Fr σ σ'∧σ.ah+1+1≤σ'.ah) dP.length ?_ ?_
 ·refine ⟨0,by omega,by omega,?_⟩
  simp (maxSteps:=9^9) (disch:=first|assumption|decide|omega) only [go_sem,z3,true_and]
  exact ⟨by rw [xZ],fr,by omega⟩
 ·rintro x tm σ' ⟨j,rfl,hj,t1,t5,t13,t14,t15,q5,hf,hnx⟩
  have hle:=hf.le
  simp (maxSteps:=9^9) (disch:=first|assumption|decide|omega) only [go_sem,z3,t1,t5,t13,t14,t15,aV]
  refine aK (fun hlt=>?_) (fun hlt=>?_)
  ·obtain ⟨b5,o5,c5,rfl,-,dM⟩:=dw.pos hL (by omega)
   have dM:=hf.ld hW (dM j hlt)
   obtain ⟨e,c,hec,he,hc⟩:=adN j hlt
   obtain ⟨b6,o6,c6,T,rfl,-,lI,hT⟩:=hR.at he
   obtain ⟨b7,o7,c7,rfl,-,uO⟩:=dw.at3 hT hc
   have lI:=hf.ld hW lI
   have uO:=hf.ld hW uO
   have hb6:=hf.wf.iK lI
   have hb7:=hf.wf.iK uO
   have wI:=Fr.refl hf.wf
   unfold JC at dM
   have hst:=uN dP.length j fun i=>f (yZ (ix dP i)).1 (yZ (ix dP i)).2
   rw [show f (yZ (ix dP j)).1 (yZ (ix dP j)).2=f e c by rw [hec];rfl] at hst
   rw [hec] at dM
   simp (maxSteps:=9^9) (disch:=first|assumption|decide|omega) only [go_sem,z3,t1,t5,t13,t14,t15,dM,lI,uO,q5,bP q5,hst]
   exact ⟨dP.length - (j+1),by omega,j+1,rfl,by omega,rfl,rfl,fr,by omega⟩
  ·have:j=dP.length:=by omega
   subst this
   simp (maxSteps:=9^9) (disch:=first|assumption|decide|omega) only [go_sem,z3,t5]
   exact ⟨⟨_,rfl,by rw [q5,BJ],by omega,by omega⟩,hf⟩
theorem adO {σ:St} (hW:WF σ) {p:Nat→Prop} {v:B} {n:Nat} {f:Nat→Rat} (hv:oC p σ.h v n f) (hn:n≤1000) (hz : ∀ i,i<n→Sz (f i)) (hs : ∀ i,i≤n→Sz (aC i f)) :
  aT EN 19 [.c v] σ fun r σ'=>r = .agg [.bool (rn (aC n f)),.str (rs (aC n f)),.str (rd (aC n f))]∧Fr σ σ':=by
 refine dh (qP.o _ _) qP.h ?_
 unfold qP
 dsimp only
 have hlen:=dw.len hv
 have hFr:=Fr.refl hW
 simp (maxSteps:=9^9) (disch:=first|assumption|decide|omega) only [go_sem,z3,hlen]
 refine aP (fun x tm σ'=>∃ j,x=n - j∧j≤n∧Tr.aj tm 2 = .c (.ptr σ.ah 0)∧Tr.aj tm 3 = .c (.ptr (σ.ah+1) 0)∧Tr.aj tm 7 = .c v∧Tr.aj tm 8 = .c (.int .i64 (.ofNat n))∧Tr.aj tm 9 = .c (.int .i64 (.ofNat j))
  ∧ σ'.h σ.ah=some ⟨[.bool (rn 0),.str (rs 0),.str (rd 0)],none⟩∧σ'.h (σ.ah+1)=some ⟨[.bool (rn (aC j f)),.str (rs (aC j f)),.str (rd (aC j f))],none⟩∧Fr σ σ'∧σ.ah+1+1≤σ'.ah) n ?_ ?_
 ·refine ⟨0,by omega,by omega,?_⟩
  simp (maxSteps:=9^9) (disch:=first|assumption|decide|omega) only [go_sem,z3,true_and]
  exact ⟨rfl,fr,by omega⟩
 ·rintro x tm σ' ⟨j,rfl,hj,t2,t3,t7,t8,t9,q2,q3,hf,hnx⟩
  have hle:=hf.le
  simp (maxSteps:=9^9) (disch:=first|assumption|decide|omega) only [go_sem,z3,t2,t3,t7,t8,t9,aV]
  refine aK (fun hlt=>?_) (fun hlt=>?_)
  ·obtain ⟨b5,o5,c5,rfl,-,dM⟩:=dw.at3 hv hlt
   have dM:=hf.ld hW dM
   have z1:=hz j hlt
   have z2:=hs j (by omega)
   have wI:=Fr.refl hf.wf
   simp (maxSteps:=9^9) (disch:=first|assumption|decide|omega) only [go_sem,z3,t2,t3,t7,t8,t9,dM,aA q3,q3,bP q3]
   exact ⟨n - (j+1),by omega,j+1,rfl,by omega,rfl,q2,rfl,fr,by omega⟩
  ·have:j=n:=by omega
   subst this
   simp (maxSteps:=9^9) (disch:=first|assumption|decide|omega) only [go_sem,z3,t2,t3,aA q3,q2,bP q2]
   exact fr
end Go.Proofs.Xe
