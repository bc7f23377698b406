import Derived.WalkKit
import Derived.WalkSpells
import Derived.WalkLawsBesides
import Derived.Maps.AppendAt
import Derived.Laws.BytesArg
import Derived.StillTail
import Derived.Lib.QuietBelow
import Derived.BigQuiet
import Derived.StillTailTactics
import Derived.IntWalk
import Derived.Lib.Hide
theorem Go.Proofs.jb{p:Prop}(h:p:=by omega):p:=h
theorem Go.Proofs.jj{p:Prop}(h:p:=by decide):p:=h
theorem Go.Proofs.kc{p:Prop}(h:p:=by simp):p:=h
theorem Go.Proofs.kg{p:Prop}(h:p:=by first|omega|(dsimp only;omega)):p:=h
theorem Go.Proofs.kh{p:Prop}(h:p:=by first|(left;omega)|(left;dsimp only;omega)|(right;simp)):p:=h
theorem Go.Proofs.kd{p:Prop}(h:p:=by grind):p:=h
theorem Go.Proofs.jz{p:Prop}(h:p:=by first|assumption|decide|omega):p:=h
theorem Go.Proofs.jp{n:Nat}:n<=n:=Nat.le_refl n
theorem Go.Proofs.jx{p:Prop}(h:p):Go.RowKit.Hid p:=h
set_option linter.all false
namespace Go.Proofs
def ab:=@if_pos
def ae:=@if_neg
def af:=@Bool.and_eq_true
def am:=@true_and
def ap:=@decide_eq_false
def aq:=@Nat.eq_of_beq_eq_true
def ar:=@Nat.le_trans
def aw:=@decide_eq_true
def ax:=@Nat.le_of_ble_eq_true
def az:=@List.length_append
def aD:=@List.getElem_of_mem
def aE:=@Nat.lt_of_lt_of_le
def aL:=@Nat.dvd_mul_right
def aM:=@Rat.le_refl
def aR:=@Nat.zero_le
def aT:=@Option.some.injEq
def be:=@Rat.mul_le_mul_of_nonneg_right
def bh:=@Classical.byContradiction
def bj:=@Rat.natCast_le_natCast
def bp:=@congrFun
def bq:=@Nat.mul_le_mul_right
def br:=@congrArg
def bw:=@List.mem_cons
def bz:=@List.length_singleton
def bA:=@List.length_cons
def bB:=@cond_true
def bL:=@Nat.lt_succ_self
def bM:=@Nat.dvd_trans
def bN:=@Nat.pow_le_pow_right
def bO:=@List.mem_append
def bR:=@Nat.mul_pos
def bX:=@Int.ofNat_eq_natCast
def ce:=@Rat.mul_nonneg
def cf:=@Nat.succ_mul
def cg:=@List.length_map
def cj:=@List.take_length
def ck:=@Int.eq_ofNat_of_zero_le
def cn:=@Nat.mul_le_mul_left
def cr:=@List.mem_flatMap
def cw:=@List.all_cons
def cx:=@Nat.zero_add
def cy:=@Nat.add_zero
def cA:=@List.take_zero
def cB:=@Nat.mod_eq_of_lt
def cC:=@Nat.mul_dvd_mul_left
def cD:=@Array.length_toList
def cE:=@Bool.false_eq_true
def cF:=@Rat.le_trans
def cG:=@Bool.and_self
def cH:=@List.flatMap_append
def cI:=@of_decide_eq_true
def cK:=@Nat.mul_le_mul
def cL:=@Nat.le_refl
def cM:=@Rat.mul_le_mul_of_nonneg_left
def cN:=@List.length_take
def cP:=@List.mem_map
def cQ:=@Prod.mk.injEq
def cR:=@Rat.intCast_mul
def cT:=@Nat.lt_of_le_of_lt
def cU:=@List.mem_singleton
def cV:=@Rat.div_mul_cancel
def cW:=@Nat.mul_comm
def cY:=@List.all_nil
def da:=@Rat.add_zero
def dc:=@List.append_nil
def de:=@Nat.mod_lt
def df:=@Nat.div_add_mod
def di:=@Nat.ble_eq_true_of_le
def dj:=@List.any_eq_true
def dm:=@Nat.pow_succ
def dp:=@Nat.le_succ
def dq:=@Nat.lt_succ_iff_lt_or_eq
def dt:=@Rat.mul_lt_mul_of_pos_right
def du:=@Nat.pow_pos
def dx:=@Nat.pow_add
def dy:=@Nat.div_lt_of_lt_mul
def dC:=@Nat.add_comm
def dE:=@Nat.lt_or_ge
def dT:=@cond_false
def ec:=@Rat.le_of_lt
def eg:=@List.mem_of_mem_take
def eh:=@List.take_of_length_le
def eo:=@List.eq_nil_of_length_eq_zero
def et:=@Nat.pos_of_ne_zero
def eA:=@List.all_eq_true
def eC:=@Bool.not_eq_true'
def eE:=@Int.toNat_of_nonneg
def eI:=@Option.some.inj
def eJ:=@Rat.natCast_mul
def eL:=@Rat.intCast_inj
def eM:=@eq_self
def eN:=@Nat.mul_one
def eO:=@Int.natAbs_mul
def eQ:=@decide_eq_true_eq
def eV:=@List.range_succ
def eZ:=@Nat.mul_lt_mul_of_pos_right
def fa:=@Array.getElem?_eq_some_iff
def ff:=@List.getD_eq_getElem?_getD
def fg:=@List.length_drop
def fh:=@List.cons_append
def fi:=@List.mem_range
def fj:=@Int.natCast_nonneg
def fk:=@Nat.div_le_self
def fm:=@List.mem_filter
def fo:=@List.nodup_append
def fq:=@Nat.mul_assoc
def ft:=@Nat.le_mul_of_pos_right
def fu:=@List.take_succ_cons
def fv:=@List.map_congr_left
def fw:=@Rat.not_lt
def fA:=@Rat.intCast_le_intCast
def fR:=@Nat.eq_zero_or_pos
def fS:=@Array.getD_eq_getD_getElem?
def fT:=@Rat.mul_comm
def fW:=@List.nil_append
def fX:=@if_true
def fY:=@Rat.natCast_add
def ga:=@Nat.lt_of_mul_lt_mul_right
def gb:=@Int.toNat_natCast
def gc:=@List.size_toArray
def gd:=@List.append_assoc
def gg:=@List.flatMap_cons
def gh:=@decide_true
def gi:=@Nat.div_eq_of_lt
def gj:=@List.getElem?_eq_getElem
def gk:=@Rat.zero_add
def gm:=@Nat.dvd_mul_left
def gn:=@Nat.le_of_eq
def gp:=@List.length_eq_zero_iff
def gw:=@Nat.le_of_dvd
def gx:=@Rat.sub_eq_add_neg
def gy:=@List.nodup_cons
def gA:=@Bool.eq_iff_iff
def gC:=@Rat.mul_eq_zero
def gH:=@Nat.one_le_two_pow
def gL:=@Int.natAbs_natCast
def gN:=@Bool.false_ne_true
def gO:=@Nat.add_mul
def gP:=@List.take_append_of_le_length
def gR:=@List.length_range
def gS:=@List.drop_zero
def gT:=@Nat.zero_mul
def hJ:=@Nat.dvd_refl
def ia:=@Nat.two_pow_add_eq_or_of_lt
def ib:=@if_false
def ic:=@List.mem_append_left
def ie:=@List.flatMap_map
def ii:=@Nat.shiftRight_xor_distrib
def ij:=@Rat.add_assoc
def ik:=@List.nodup_iff_pairwise_ne
def il:=@Rat.one_mul
def im:=@Nat.min_eq_left
def io:=@List.pairwise_iff_getElem
def ip:=@Nat.le_of_lt
def ir:=@Nat.xor_lt_two_pow
def it:=@List.drop_drop
end Go.Proofs
namespace Go.Proofs.Ins
def LB:Nat:=4294967296
theorem lV:0<LB:=by unfold LB;omega
def axR:LB=4294967296:=rfl
def lv(f:Nat->Nat):Nat->Nat
 |0=>0
 |k+1=>lv f k+LB^k*f k
def NY(f:Nat->Nat):lv f 0=0:=rfl
theorem eG(f:Nat->Nat)(k:Nat):lv f (k+1)=lv f k+LB^k*f k:=rfl
theorem lW{f g:Nat->Nat}{n:Nat}(h:∀j,j<n->f j=g j):lv f n=lv g n:=by
 induction n with
 |zero=>rfl
 |succ k ih=>grind[eG]
def IY{f:Nat->Nat}{n:Nat}(h:∀j,j<n->f j<LB):lv f n<LB^n:=by
 induction n with
 |zero=>simp[lv]
 |succ k ih=>
  have h1:=ih (λj hj=>h j jb)
  have h2:=h k jb
  have h3:LB^k*f k+LB^k<=LB^k*LB:=by rw[<-Nat.mul_succ];exact cn _ h2
  rw[eG,dm];omega
theorem yK(f:Nat->Nat)(n m:Nat):lv f (n+m)=lv f n+LB^n*lv (λj=>f (n+j)) m:=by
 induction m with
 |zero=>simp[lv]
 |succ k ih=>
  grind[eG]
theorem Yt(f:Nat->Nat)(m:Nat):lv f (m+1)=f 0+LB*lv (λj=>f (j+1)) m:=by have h:=yK f 1 m;grind[lv]
theorem OZ{f:Nat->Nat}{n:Nat}(h:∀j,j<n->f j=0):lv f n=0:=by
 induction n with
 |zero=>rfl
 |succ k ih=>grind[eG]
def adU{f:Nat->Nat}{n m:Nat}(hn:n<=m)(h:∀j,n<=j->j<m->f j=0):lv f m=lv f n:=by grind[Nat.exists_eq_add_of_le,yK,OZ]
def upd(f:Nat->Nat)(i v:Nat):Nat->Nat:=λj=>if j=i then v else f j
theorem upd_same(f:Nat->Nat)(i v:Nat):upd f i v i=v:=by simp[upd]
theorem cO(f:Nat->Nat)(i v:Nat){j:Nat}(h:j≠i):upd f i v j=f j:=by simp[upd,h]
theorem Bl(f:Nat->Nat){i v n:Nat}(h:n<=i):lv (upd f i v) n=lv f n:=
 lW λj hj=>cO f i v jb
theorem abp(f:Nat->Nat){i v n:Nat}(h:i<n):lv (upd f i v) n+LB^i*f i=lv f n+LB^i*v:=by
 induction n with
 |zero=>omega
 |succ k ih=>
  grind[eG,Bl,upd_same,cO]
def Can(f:Nat->Nat)(n:Nat):Prop:=(∀j,j<n->f j<LB)/\(n=0\/f (n-1)≠0)
def Can.ge{f:Nat->Nat}{n:Nat}(h:Can f n)(hn:0<n):LB^(n-1)<=lv f n:=by
 obtain⟨k,rfl⟩:∃k,n=k+1:=⟨n-1,jb⟩
 have h2:f k≠0:=by rcases h.2 with h|h;omega;grind
 rw[eG];have h3:1<=f k:=jb;have:=cn (LB^k) h3;grind
def Can.lt{f:Nat->Nat}{n:Nat}(h:Can f n):lv f n<LB^n:=IY h.1
def Can.Yu{f:Nat->Nat}{n:Nat}(h:Can f n):lv f n=0↔n=0:=by
 constructor
 .intro h0;by_cases hn:n=0
  .exact hn
  .have:=h.ge jb;grind[lV]
 .rintro rfl;rfl
def Can.Kz{f g:Nat->Nat}{n m:Nat}(hf:Can f n)(hg:Can g m)(h:n<m):lv f n<lv g m:=by have h1:=hf.lt;have h2:=hg.ge jb;have h3:LB^n<=LB^(m-1):=bN lV jb;omega
def yw{f g:Nat->Nat}{n k:Nat}(hf:∀j,j<n->f j<LB)(hg:∀j,j<n->g j<LB)
  (hk:k<n) (he:∀j,k<j->j<n->f j=g j) (hlt:f k<g k):lv f n<lv g n:=by
 obtain⟨d,rfl⟩:=Nat.exists_eq_add_of_le (show k+1<=n by omega)
 rw[yK f,yK g,lW (f:=λj=>f (k+1+j)) (g:=λj=>g (k+1+j)) (λj hj=>he _ jb jb),eG,eG]
 have h1:=IY (f:=f) (n:=k) (λj hj=>hf j jb)
 have h2:LB^k*f k+LB^k<=LB^k*g k:=by rw[<-Nat.mul_succ];exact cn _ hlt
 omega
def AA(f:Nat->Nat):Nat->Nat
 |0=>0
 |k+1=>if f k=0 then AA f k else k+1
theorem NZ(f:Nat->Nat)(n:Nat):AA f n<=n:=by
 induction n with
 |zero=>simp[AA]
 |succ k ih=>grind[AA]
def afW(f:Nat->Nat)(n:Nat):∀j,AA f n<=j->j<n->f j=0:=by
 induction n with
 |zero=>omega
 |succ k ih=>
  grind[AA]
def aiB(f:Nat->Nat)(n:Nat):AA f n=0\/f (AA f n-1)≠0:=by
 induction n with
 |zero=>simp[AA]
 |succ k ih=>
  grind[AA]
def aiC{f:Nat->Nat}{n:Nat}(h:∀j,j<n->f j<LB):Can f (AA f n):=
 ⟨λj hj=>h j (by grind[NZ]),aiB f n⟩
def adV(f:Nat->Nat)(n:Nat):lv f (AA f n)=lv f n:=(adU (NZ f n) (afW f n)).symm
def bv(l:List UInt8):Nat:=l.foldl (λa b=>a*256+b.toNat) 0
theorem atg:bv []=0:=rfl
def anY(l:List UInt8)(b:UInt8):bv (l++[b])=bv l*256+b.toNat:=by grind[bv]
def Ue(l r:List UInt8):bv (l++r)=bv l*256^r.length+bv r:=by
 have h:∀(r:List UInt8) (a:Nat),r.foldl (λa b=>a*256+b.toNat) a=a*256^r.length+r.foldl (λa b=>a*256+b.toNat) 0:=by
  intro r;induction r with
  |nil=>simp
  |cons b r ih=>
   grind
 grind[bv]
def yx(b:UInt8)(l:List UInt8):bv (b::l)=b.toNat*256^l.length+bv l:=by have h:=Ue [b] l;grind[bv]
def MB(l:List UInt8):bv l<256^l.length:=by
 induction l with
 |nil=>simp[bv]
 |cons b l ih=>
  rw[yx,bA,dm]
  have h1:=b.toNat_lt
  have h2:b.toNat*256^l.length+256^l.length<=256*256^l.length:=by rw[<-cf];exact bq _ jb
  omega
def bnF:Nat->Nat->List UInt8
 |0,_=>[]
 |k+1,n=>if n=0 then []else bnF k (n/256)++[UInt8.ofNat (n%256)]
def Np(n:Nat):List UInt8:=bnF n n
theorem aiD:∀(k n:Nat),n<=k->bv (bnF k n)=n:=by
 intro k;induction k with
 |zero=>
  intro n h;have:n=0:=jb
  subst this;rfl
 |succ k ih=>
  intro n h
  unfold bnF
  split
  .rename_i h0;subst h0;rfl
  .rw[anY,ih (n/256) jb]
   have:(UInt8.ofNat (n%256)).toNat=n%256:=by simp
   omega
def O1(n:Nat):bv (Np n)=n:=aiD n n jp
def aiE:∀(k n:Nat),n<=k->(bnF k n).head?≠some 0:=by
 intro k;induction k with
 |zero=>grind[bnF]
 |succ k ih=>
  intro n h
  unfold bnF
  split
  .simp
  .rename_i h0
   by_cases h1:n/256=0
   .have:bnF k (n/256)=[]:=by rw[h1];cases k<;>simp[bnF]
    rw[this]
    simp only[fW,List.head?_cons,ne_eq,aT]
    intro h2
    have h3:(UInt8.ofNat (n%256)).toNat=0:=by simp_all
    have:(UInt8.ofNat (n%256)).toNat=n%256:=by simp
    omega
   .have h2:=ih (n/256) jb
    rw[List.head?_append]
    cases h3:(bnF k (n/256)).head? with
    |none=>
     have:bnF k (n/256)=[]:=by simp_all
     grind[aiD,bv]
    |some b=>grind
def IZ(n:Nat):(Np n).head?≠some 0:=aiE n n jp
def Uf{l:List UInt8}(h:l.head?≠some 0)(hl:l≠[]):256^(l.length-1)<=bv l:=by
 cases l with
 |nil=>grind
 |cons b l=>
  rw[yx]
  have h1:b≠0:=by grind
  have h2:b.toNat≠0:=by intro h3;exact h1 (UInt8.toNat_inj.mp kd)
  have:1*256^l.length<=b.toNat*256^l.length:=bq _ jb
  grind
theorem abq:∀{l r:List UInt8},l.length=r.length->bv l=bv r->l=r:=by
 intro l;induction l with
 |nil=>grind
 |cons b l ih=>
  intro r h hv
  cases r with
  |nil=>simp at h
  |cons c r=>
   have hl:l.length=r.length:=by grind
   rw[yx,yx,hl]at hv
   have h1:=MB l;have h2:=MB r
   rw[hl]at h1
   have hp:0<256^r.length:=du jb
   have e1:(b.toNat*256^r.length+bv l)/256^r.length=b.toNat:=by grind[Nat.add_mul_div_right,Nat.div_eq_of_lt]
   have e2:(c.toNat*256^r.length+bv r)/256^r.length=c.toNat:=by grind[Nat.add_mul_div_right,Nat.div_eq_of_lt]
   have e3:b.toNat=c.toNat:=by grind
   have e4:b=c:=UInt8.toNat_inj.mp e3
   grind
def abr{l:List UInt8}(h:l.head?≠some 0):Np (bv l)=l:=by
 have h1:=O1 (bv l);have h2:=IZ (bv l);by_cases hl:l=[]
 .subst hl;rfl
 by_cases hr:Np (bv l)=[]
 .rw[hr]at h1;have:=Uf h hl;grind[atg]
 have g1:=Uf h hl;have g2:=Uf h2 hr;have l1:=MB l;have l2:=MB (Np (bv l));rw[h1]at g2 l2;have hlen:(Np (bv l)).length=l.length:=by
  have hp1:0<l.length:=List.length_pos_iff.mpr hl;have hp2:0<(Np (bv l)).length:=List.length_pos_iff.mpr hr;rcases Nat.lt_trichotomy (Np (bv l)).length l.length with c|c|c
  .have:256^(Np (bv l)).length<=256^(l.length-1):=bN jb jb;omega
  .exact c
  .have:256^l.length<=256^((Np (bv l)).length-1):=bN jb jb;omega
 grind[abq]
def Tj{n k:Nat}(h:n<256^k):(Np n).length<=k:=by
 by_cases hn:Np n=[]
 .grind
 .have:=Uf (IZ n) hn;rw[O1]at this;have:256^((Np n).length-1)<256^k:=jb;grind[Nat.pow_lt_pow_iff_right]
def bn(n:Nat):ByteArray:=⟨(Np n).toArray⟩
def nv(s:ByteArray):Nat:=bv s.data.toList
def afX(n:Nat):(bn n).data.toList=Np n:=by simp[bn]
theorem dS(n:Nat):nv (bn n)=n:=by unfold nv;rw[afX,O1]
def mZ{n k:Nat}(h:n<256^k):(bn n).size<=k:=by simp_all[Tj,bn,ByteArray.size]
theorem Yv(s:ByteArray):nv s<256^s.size:=
 MB s.data.toList
def abt{n m:Nat}(h:bn n=bn m):n=m:=by grind[dS]
def KA{s:ByteArray}(h:s.data.toList.head?≠some 0):bn (nv s)=s:=by have:Np (bv s.data.toList)=s.data.toList:=abr h;simp_all[bn,nv]
theorem N7:bn 0=⟨#[]⟩:=rfl
theorem Ea(n:Nat):bn n=⟨#[]⟩↔n=0:=by
 constructor
 .intro h;exact abt (h.trans N7.symm)
 .rintro rfl;rfl
def bl(f:Nat->Nat):Nat->Nat
 |0=>0
 |k+1=>bl f k+256^k*f k
theorem O4{f g:Nat->Nat}{n:Nat}(h:∀j,j<n->f j=g j):bl f n=bl g n:=by
 induction n with
 |zero=>rfl
 |succ k ih=>grind[bl]
def N8(s:ByteArray)(k:Nat):Nat:=(s.data.toList.getD (s.size-1-k) 0).toNat
def VF(s:ByteArray)(k:Nat):N8 s k<256:=UInt8.toNat_lt _
def Yw(s:ByteArray):s.data.toList.length=s.size:=rfl
def axS(l:List UInt8):bl (λk=>(l.getD (l.length-1-k) 0).toNat) l.length=bv l:=by
 induction l with
 |nil=>rfl
 |cons x l ih=>
  rw[yx]
  have e0:(x::l).length=l.length+1:=rfl
  rw[e0]
  grind[bl,O4]
def abu(s:ByteArray):bl (N8 s) s.size=nv s:=axS s.data.toList
def pw(b:Nat->Nat)(k j:Nat):Nat:=(if 4*j<k then b (4*j)else 0)+(if 4*j+1<k then b (4*j+1)*256 else 0)+(if 4*j+2<k then b (4*j+2)*65536 else 0)+(if 4*j+3<k then b (4*j+3)*16777216 else 0)
def Yx{b:Nat->Nat}(hb:∀k,b k<256)(k j:Nat):pw b k j<LB:=by grind[pw,LB]
def VH(b:Nat->Nat)(j:Nat):pw b 0 j=0:=by simp[pw]
def aiF{b:Nat->Nat}(hb:∀k,b k<256)(k:Nat):pw b k (k/4)<2^(8*(k%4)):=by have h0:=hb (4*(k/4));grind[pw]
def I4(b:Nat->Nat)(k j:Nat):pw b (k+1) j=upd (pw b k) (k/4) (pw b k (k/4)+b k*2^(8*(k%4))) j:=by
 by_cases hj:j=k/4
 .grind[upd_same,pw]
 grind[cO,pw]
def VI(k:Nat):LB^k=256^(4*k):=by rw[Nat.pow_mul];rfl
theorem ath(k:Nat):256^k=LB^(k/4)*2^(8*(k%4)):=by
 have h:(256:Nat)=2^8:=by decide
 rw[VI,h,<-Nat.pow_mul,<-Nat.pow_mul,<-dx];congr 1;omega
def asb(b:Nat->Nat){k n:Nat}(hk:k<=4*n):lv (pw b k) n=bl b k:=by
 induction k with
 |zero=>rw[OZ (λj _=>VH b j)];rfl
 |succ k ih=>
  rw[lW (λj _=>I4 b k j)]
  grind[abp,bl,ath]
def lby(f:Nat->Nat)(k:Nat):Nat:=f (k/4)/2^(8*(k%4))%256
def ati(f:Nat->Nat)(n:Nat):bl f (n+4)=bl f n+256^n*(f n+256*f (n+1)+65536*f (n+2)+16777216*f (n+3)):=by grind[bl]
def atj{f:Nat->Nat}{n:Nat}(h:∀j,j<n->f j<LB):bl (lby f) (4*n)=lv f n:=by
 induction n with
 |zero=>rfl
 |succ k ih=>
  have hk:=h k jb
  rw[show 4*(k+1)=4*k+4 from rfl,ati,ih (λj hj=>h j jb),eG,VI]
  congr 1
  have d0:lby f (4*k)=f k%256:=by simp_all[lby]
  have d1:lby f (4*k+1)=f k/256%256:=by unfold lby;rw[show(4*k+1)/4=k by omega,show(4*k+1)%4=1 by omega]
  have d2:lby f (4*k+2)=f k/65536%256:=by unfold lby;rw[show(4*k+2)/4=k by omega,show(4*k+2)%4=2 by omega]
  have d3:lby f (4*k+3)=f k/16777216%256:=by unfold lby;rw[show(4*k+3)/4=k by omega,show(4*k+3)%4=3 by omega]
  grind[LB]
def ext(f:Nat->Nat)(n:Nat):Nat->Nat:=λj=>if j<n then f j else 0
theorem VJ{f:Nat->Nat}{n j:Nat}(h:j<n):ext f n j=f j:=by simp[ext,h]
def VK{f:Nat->Nat}{n j:Nat}(h:n<=j):ext f n j=0:=by grind[Go.Proofs.Ins.ext]
def abv{f:Nat->Nat}{n m:Nat}(h:n<=m):lv (ext f n) m=lv f n:=by rw[adU h (λj h1 _=>VK h1)];grind[lW,VJ]
def abw{f:Nat->Nat}{n:Nat}(h:∀j,j<n->f j<LB)(j:Nat):ext f n j<LB:=by grind[Go.Proofs.Ins.ext,Go.Proofs.Ins.lV]
def cry(f g:Nat->Nat):Nat->Nat
 |0=>0
 |k+1=>(f k+g k+cry f g k)/LB
def sdg(f g:Nat->Nat)(k:Nat):Nat:=(f k+g k+cry f g k)%LB
theorem Yy(f g:Nat->Nat)(k:Nat):cry f g (k+1)=(f k+g k+cry f g k)/LB:=rfl
def atl{f g:Nat->Nat}(hf:∀j,f j<LB)(hg:∀j,g j<LB)(k:Nat):cry f g k<=1:=by
 induction k with
 |zero=>simp[cry]
 |succ k ih=>
  grind[Yy,LB]
def atm(f g:Nat->Nat)(k:Nat):lv (sdg f g) k+LB^k*cry f g k=lv f k+lv g k:=by
 induction k with
 |zero=>rfl
 |succ k ih=>
  grind[eG,cry,sdg,Nat.div_add_mod]
def bor(f g:Nat->Nat):Nat->Nat
 |0=>0
 |k+1=>if f k<g k+bor f g k then 1 else 0
def ddg(f g:Nat->Nat)(k:Nat):Nat:=(f k+LB*bor f g (k+1))-g k-bor f g k
theorem I5(f g:Nat->Nat)(k:Nat):bor f g (k+1)=if f k<g k+bor f g k then 1 else 0:=rfl
theorem abx(f g:Nat->Nat)(k:Nat):bor f g k<=1:=by
 cases k with
 |zero=>simp[bor]
 |succ k=>grind[I5]
theorem aby{f g:Nat->Nat}{k:Nat}(hf:f k<LB)(hg:g k<LB):ddg f g k+g k+bor f g k=f k+LB*bor f g (k+1)/\ddg f g k<LB:=by grind[abx,ddg,I5]
def atn{f g:Nat->Nat}{k:Nat}(hf:∀j,j<k->f j<LB)(hg:∀j,j<k->g j<LB):lv (ddg f g) k+lv g k=lv f k+LB^k*bor f g k:=by
 induction k with
 |zero=>rfl
 |succ k ih=>
  grind[aby,eG]
def O5(O0 O:Nat->Nat)(N i k c u:Nat)(fy:Nat->Nat):Prop:=
 lv O N+LB^(i+k)*c=lv O0 N+LB^i*(u*lv fy k)/\(∀j,j<N->O j<LB)/\(∀j,i+k<=j->O j=O0 j)/\c<LB
def afY{O0:Nat->Nat}{N i u:Nat}{fy:Nat->Nat}(h:∀j,j<N->O0 j<LB):O5 O0 O0 N i 0 0 u fy:=
 ⟨by simp[lv],h,λ_ _=>rfl,lV⟩
def O6{u v o c:Nat}(hu:u<LB)(hv:v<LB)(ho:o<LB)(hc:c<LB):u*v+o+c<LB*LB:=by have h1:u*v<=(LB-1)*(LB-1):=cK jb jb;grind[LB]
def aiG{O0 O:Nat->Nat}{N i k c u:Nat}{fy:Nat->Nat}(h:O5 O0 O N i k c u fy)(hu:u<LB)(hv:fy k<LB)(hk:i+k<N):
  O5 O0 (upd O (i+k) ((u*fy k+O (i+k)+c)%LB)) N i (k+1) ((u*fy k+O (i+k)+c)/LB) u fy:=by
 obtain⟨h1,h2,h3,h4⟩:=h
 have hf:=O6 hu hv (h2 (i+k) hk) h4
 refine⟨?_,?_,?_,?_⟩
 .grind[abp,Nat.div_add_mod,lv]
 .intro j hj
  by_cases ej:j=i+k
  .simp_all[upd_same,de,lV]
  grind[cO]
 .grind[cO]
 .exact dy hf
def anZ{O0 O:Nat->Nat}{N i m c u X:Nat}{fy:Nat->Nat}(h:O5 O0 O N i m c u fy)(hm:i+m<N)(hz:∀j,i+m<=j->O0 j=0)(hX:lv O0 N=X*lv fy m):
  lv (upd O (i+m) c) N=(X+LB^i*u)*lv fy m/\(∀j,j<N->upd O (i+m) c j<LB)/\(∀j,i+1+m<=j->upd O (i+m) c j=0):=by
 obtain⟨h1,h2,h3,h4⟩:=h
 grind[Go.Proofs.Ins.abp,Go.Proofs.Ins.upd_same,Go.Proofs.Ins.cO]
end Go.Proofs.Ins
namespace Go.Proofs.Ins
open Go.RowKit
def Row(w:World)(b:Nat)(T:TypeId)(k:IntKind)(n:Nat)(f:Nat->Nat):Prop:=
 ∃c,w.heap[b]?=some (.cells c T (0,0))/\c.size=n/\∀j,j<n->c[j]?=some (.int k (f j))
def Reads(w:World)(b off:Nat)(k:IntKind)(n:Nat)(f:Nat->Nat):Prop:=∀j,j<n->w.cell? ⟨b,off+j,none⟩=some (.int k (f j))
def Limbs(w:World)(a:Option Addr)(len:Nat)(x:Nat):Prop:=
 ∃f,lv f len=x/\Can f len/\(len=0\/∃b off,a=some ⟨b,off,none⟩/\Reads w b off .u32 len f)
def abz(a b s:Nat)(ha:a<2^s)(hb:a+b*2^s<4294967296):bits BinOp.or .u32 (a:Int) ((b:Int)*2^s)=((a+b*2^s:Nat):Int):=by
 have h1:((b:Int)*2^s)=((b*2^s:Nat):Int):=by push_cast;rfl
 rw[h1];rw[(bits_nat .u32 32 jj (λn h0 h1=>by rw[IntKind.wrap_u32];omega) a (b*2^s) jb jb).2];have h2:a|||b*2^s=a+b*2^s:=by rw[Nat.or_comm,cW,<-ia ha,dC]
 rw[<-h2]
def I7{k:IntKind}{a b:Int}(h:a=b):Ending.returned (.int k a)=.returned (.int k b):=by rw[h]
def VL{a b:ByteArray}(h:a=b):Ending.returned (.string a)=.returned (.string b):=by rw[h]

section
variable {P:Program} {ops:Array Oper} {md:Region.Mode} {C:World→Prop}
end
def Blk(w:World)(b:Nat)(vs:Array Value):Prop:=∃T,w.heap[b]?=some (.cells vs T (0,0))
def Blk.lt{w:World}{b:Nat}{vs:Array Value}(h:Blk w b vs):b<w.heap.size:=by obtain⟨T,h⟩:=h;exact(fa.mp h).1
def Blk.block{w w':World}{b:Nat}{vs:Array Value}(h:Blk w b vs)(hb:w'.heap[b]?=w.heap[b]?):Blk w' b vs:=by obtain⟨T,h⟩:=h;exact⟨T,hb.trans h⟩
def Blk.below{w w':World}{b B:Nat}{vs:Array Value}(h:Blk w b vs)(hb:Below B w w')(hB:b<B):Blk w' b vs:=h.block (hb.block b hB)
def Blk.on{w w':World}{b:Nat}{vs:Array Value}(h:Blk w b vs)(hb:Below w.heap.size w w'):Blk w' b vs:=h.below hb h.lt
def Blk.new(w:World)(vs:Array Value)(T:TypeId):Blk (w.alloc (.cells vs T)) w.heap.size vs:=⟨T,heap_alloc_new w _⟩
def chain{B:Nat}{w0 w w':World}(h:Below B w0 w)(h2:Below w.heap.size w w')(hB:B<=w0.heap.size):Below B w0 w':=h.trans (h2.mono (ar hB h.size))
def ato{w w3:World}{vs:Array Value}{T:TypeId}(h:Below (w.alloc (.cells vs T)).heap.size (w.alloc (.cells vs T)) w3):
  Blk w3 w.heap.size vs/\Below w.heap.size w w3:=
 ⟨(Blk.new w vs T).on h,chain ((Below.refl _ _).alloc jp _) h jp⟩
def Ig(w:World)(b off sz n:Nat)(F:Nat->List Value):Prop:=∀i j,i<n->j<sz->w.cell? ⟨b,off+i*sz+j,none⟩=(F i)[j]?
def Ig.below{w w':World}{b off sz n B:Nat}{F:Nat->List Value}(h:Ig w b off sz n F)(hb:Below B w w')(hB:b<B):Ig w' b off sz n F:=λi j hi hj=>by rw[World.cell?_of_block (w:=w) (a:=⟨b,off+i*sz+j,none⟩) (hb.block b hB)];exact h i j hi hj
def afZ(w:World)(a:Option Addr)(n sz:Nat)(F:Nat->List Value):Prop:=n=0\/∃b off,a=some ⟨b,off,none⟩/\b<w.heap.size/\Ig w b off sz n F
def ng(w:World)(base:Nat)(T:TypeId)(sz:Nat)(v:Value)(n:Nat)(F:Nat->List Value):Prop:=
 w.ownsRow base T sz v n ((List.range n).flatMap F)/\∀i,i<n->(F i).length=sz
theorem ng.nil(w:World)(base:Nat)(T:TypeId)(sz:Nat)(F:Nat->List Value):ng w base T sz (.slice none 0 0) 0 F:=⟨⟨by simp,.inl ⟨rfl,rfl⟩⟩,λi hi=>jb⟩
def ng.below{w w':World}{base B:Nat}{T:TypeId}{sz:Nat}{v:Value}{n:Nat}{F:Nat->List Value}(h:ng w base T sz v n F)(hb:Below B w w')(hB:w.heap.size<=B):ng w' base T sz v n F:=by
 obtain⟨⟨h1,h2⟩,h3⟩:=h;refine⟨⟨h1,?_⟩,h3⟩;rcases h2 with h2|⟨g,cap,cur,rfl,hb2,hg,hn,hm,hs,ht⟩
 .exact .inl h2
 .exact .inr ⟨g,cap,cur,rfl,hb2,(hb.block g (aE (fa.mp hg).1 hB)).trans hg,hn,hm,hs,ht⟩
def zZ{F:Nat->List Value}{sz:Nat}:∀(n:Nat),(∀i,i<n->(F i).length=sz)->∀i j,i<n->j<sz->((List.range n).flatMap F)[i*sz+j]?=(F i)[j]?
 |0,_,i,j,hi,_=>jb
 |n+1,hF,i,j,hi,hj=>by
  rw[eV,cH];have hlen:((List.range n).flatMap F).length=n*sz:=by
   clear hi;induction n with
   |zero=>simp
   |succ n ih=>
    rw[eV,cH,az,ih (λi hi=>hF i jb)]
    simp[hF n jb,cf]
  by_cases h:i<n
  .have h4:i*sz+j<n*sz:=by have:=bq sz (show i+1<=n by omega);rw[cf]at this;omega
   rw[List.getElem?_append_left jb];exact zZ n (λi hi=>hF i jb) i j h hj
  .obtain rfl:i=n:=jb;rw[List.getElem?_append_right jb,hlen,show i*sz+j-i*sz=j by omega];simp
def ng.form{w:World}{base:Nat}{T:TypeId}{sz:Nat}{v:Value}{n:Nat}{F:Nat->List Value}(h:ng w base T sz v n F):
  (v=.slice none 0 0/\n=0)\/∃g cap,v=.slice (some ⟨g,0,none⟩) n cap/\base<=g/\n<=cap/\cap<=9223372036854775807/\g<w.heap.size/\Ig w g 0 sz n F:=by
 obtain⟨h0,h3⟩:=h
 obtain⟨h1,h2⟩:=h0
 rcases h2 with h2|⟨g,cap,cur,rfl,hb,hg,hn,hm,hs,ht⟩
 .exact .inl h2
 .refine .inr ⟨g,cap,rfl,hb,hn,hm,(fa.mp hg).1,λi j hi hj=>?_⟩
  have hlt:i*sz+j<n*sz:=by have:=bq sz (show i+1<=n by omega);rw[cf]at this;omega
  have:=World.ownsRow.cellAt ⟨h1,.inr ⟨g,cap,cur,rfl,hb,hg,hn,hm,hs,ht⟩⟩ (i*sz+j) hlt
  rw[cx,this]
  exact zZ n h3 i j hi hj
def I8{base sz:Nat}{w w':World}{T:TypeId}{v:Value}{n:Nat}{xs:List Value}(h:w.ownsRow base T sz v n xs)(hg:w.grownBy w' v.ownBlock)(hb:base<=w.heap.size):Below base w w':=by
 refine(Below.refl _ _).grown hg hb ?_;intro k hk;rcases h.2 with⟨rfl,_⟩|⟨g,cap,cur,rfl,hb2,_⟩
 .cases hk
 .have:g=k:=eI hk;omega
def VN{P:Program}{T:TypeId}{sz bytes:Nat}(h:(P.info? T).map (λi=>(i.zero.map (λz=>z.cells.size),i.size,i.bytes))=some (some sz,sz,bytes)):
  ∃i z,P.info? T=some i/\i.zero=some z/\z.cells.size=sz/\i.size=sz/\i.bytes=bytes:=by
 cases hi:P.info? T with
 |none=>rw[hi]at h;cases h
 |some i=>
  rw[hi]at h
  simp only[Option.map_some,aT,cQ]at h
  obtain⟨h1,h2,h3⟩:=h
  cases hz:i.zero with
  |none=>rw[hz]at h1;cases h1
  |some z=>
   rw[hz]at h1
   exact⟨i,z,rfl,hz,eI h1,h2,h3⟩
def abA{P:Program}{w:World}{o:Oper}{a:Act}{K:Act->World->Prop}{Q:Exit->Act->World->Prop}
  (s x:Operand) (t T:TypeId) (sz bytes:Nat) (base:Nat) (v:Value) (n:Nat) (F:Nat->List Value) (E:List Value)
  (hop:o.op=.call { callee:=.builtin .append,args:=#[s,x],argTypes:=#[t,t] })
  (h1:P.underlying t=some (.slice T)) (h2:(P.info? T).map (λi=>(i.zero.map (λz=>z.cells.size),i.size,i.bytes))=some (some sz,sz,bytes)) (hsz:0<sz)
  (hs:a.eval s=v) (hE:E.length=sz) (h1c:∀u∈E,u.oneCell'=true) (hx:a.eval x=.slice (some ⟨w.heap.size,0,none⟩) 1 1) (hown:ng w base T sz v n F) (hn:(n+1)*bytes<=140737488355328) (hn2:n+1<=4294967296) (hbase:base<=w.heap.size)
  (h:∀v' w',ng w' base T sz v' (n+1) (λj=>if j<n then F j else E)->Below base w w'->K (a.put o.dst v') w'):
  o.wp P a (w.alloc (.cells E.toArray T)) K Q:=by
 obtain⟨i,z,hi,hz,hzs,hsize,hbb⟩:=VN h2
 refine wp_append_own _ s x t hop base T i z sz bytes h1 hi hz hsize hbb hzs hsz v n _ hs (World.ownsRow.alloc hown.1 _) ⟨w.heap.size,0,none⟩ 1 1 E hx (by rw[hE,Nat.one_mul]) ?_ h1c (by unfold maxLen;omega) hn (by simp;omega) ?_
 .intro j u hj
  have e:(⟨w.heap.size,0,none⟩:Addr).add j=⟨w.heap.size,j,none⟩:=by unfold Addr.add;split<;>simp_all
  rw[e,cell_of_row _ _ _ _ _ (0,0) (heap_alloc_new w _)]
  simpa using hj
 .intro v' w' ho hgr _
  have hbl:Below base w w':=((Below.refl _ _).alloc hbase _).trans (I8 (World.ownsRow.alloc hown.1 _) hgr (by simp;omega))
  refine h v' w' ⟨?_,λi hi=>?_⟩ hbl
  .have e:(List.range n).flatMap F++E=(List.range (n+1)).flatMap (λj=>if j<n then F j else E):=by
    rw[eV,cH];congr 1
    .have hc:∀(m:Nat),m<=n->(List.range m).flatMap F=(List.range m).flatMap (λj=>if j<n then F j else E):=by
      intro m;induction m with
      |zero=>intro _;rfl
      |succ m ih=>
       intro hm
       rw[eV,cH,cH,ih jb]
       simp[show m<n by omega]
     exact hc n jp
    .simp
   rw[<-e];exact ho
  .by_cases h:i<n
   .simp only[h,fX];exact hown.2 i h
   .simp only[h,ib];exact hE
def O7{P:Program}{w:World}{ops:Array Oper}{rest:List Oper}{o:Oper}{a:Act}{Q:Exit->Act->World->Prop}
  (s x:Operand) (t T:TypeId) (sz bytes:Nat) (base:Nat) (v:Value) (n:Nat) (F:Nat->List Value) (E:List Value)
  (hg:o.guard=none) (hop:o.op=.call { callee:=.builtin .append,args:=#[s,x],argTypes:=#[t,t] })
  (h1:P.underlying t=some (.slice T)) (h2:(P.info? T).map (λi=>(i.zero.map (λz=>z.cells.size),i.size,i.bytes))=some (some sz,sz,bytes)) (hsz:0<sz)
  (hs:a.eval s=v) (hE:E.length=sz) (h1c:∀u∈E,u.oneCell'=true) (hx:a.eval x=.slice (some ⟨w.heap.size,0,none⟩) 1 1) (hown:ng w base T sz v n F) (hn:(n+1)*bytes<=140737488355328) (hn2:n+1<=4294967296) (hbase:base<=w.heap.size)
  (h:∀v' w',ng w' base T sz v' (n+1) (λj=>if j<n then F j else E)->Below base w w'->wpList P ops Q rest (a.put o.dst v') w'):
  wpList P ops Q (o::rest) a (w.alloc (.cells E.toArray T)):=
 wpList_plain hg λ_ hK=>abA s x t T sz bytes base v n F E hop h1 h2 hsz hs hE h1c hx hown hn hn2 hbase λv' w' ho hb=>hK _ _ (h v' w' ho hb)
def ng.congr{w:World}{base:Nat}{T:TypeId}{sz:Nat}{v:Value}{n:Nat}{F G:Nat->List Value}(h:ng w base T sz v n F)(hg:∀i,i<n->F i=G i):ng w base T sz v n G:=by
 obtain⟨h1,h2⟩:=h;refine⟨?_,λi hi=>by rw[<-hg i hi];exact h2 i hi⟩;have hc:∀(m:Nat),m<=n->(List.range m).flatMap F=(List.range m).flatMap G:=by
  intro m;induction m with
  |zero=>intro _;rfl
  |succ m ih=>
   intro hm
   rw[eV,cH,cH,ih jb]
   simp[hg m jb]
 rw[<-hc n jp];exact h1
end Go.Proofs.Ins
namespace Go.Proofs.Ins
def rn(q:Rat):Bool:=decide (q.num<0)
def rs(q:Rat):ByteArray:=bn q.num.natAbs
def rd(q:Rat):ByteArray:=if q.den=1 then⟨#[]⟩else bn q.den
def wL(n:Bool)(x:Nat):Int:=if n=true then-(x:Int)else(x:Int)
theorem ni(n:Bool)(x:Nat):(wL n x).natAbs=x:=by grind[wL]
theorem Yz(n:Bool):wL n 0=0:=by grind[wL]
theorem adW(n:Bool){x:Nat}(h:0<x):decide (wL n x<0)=n:=by grind[wL]
theorem adZ(n m:Bool)(x y:Nat):wL n x*wL m y=wL (n !=m) (x*y):=by unfold wL;grind
theorem Ec(i:Int):wL (decide (i<0)) i.natAbs=i:=by grind[wL]
def dn(d:ByteArray):Nat:=if nv d=0 then 1 else nv d
theorem ad1(q:Rat):dn (rd q)=q.den:=by
 unfold dn rd;by_cases h:q.den=1
 .rw[ab h,h];rfl
 .rw[ae h,dS,ae (by have:=q.den_pos;omega)]
def MC(n:Bool)(s d:ByteArray):Prop:=
 bn (nv s)=s/\bn (nv d)=d/\(nv s=0->n=false/\nv d=0)/\(nv d=0\/(nv d≠1/\Nat.gcd (nv s) (nv d)=1))
instance (n:Bool) (s d:ByteArray):Decidable (MC n s d):=by unfold MC;infer_instance
def rq(n:Bool)(s d:ByteArray):Rat:=if MC n s d then mkRat (wL n (nv s)) (dn d)else 0
theorem Ed(q:Rat):MC (rn q) (rs q) (rd q):=by
 unfold MC;have hd:=q.den_pos;have e:nv (rd q)=if q.den=1 then 0 else q.den:=by
  unfold rd;split
  .rfl
  .exact dS _
 refine⟨by unfold rs;rw[dS],?_,?_,?_⟩
 .unfold rd;split
  .rfl
  .rw[dS]
 .intro h;unfold rs at h;rw[dS]at h;have h0:q.num=0:=jb;have h1:q=0:=Rat.num_eq_zero.mp h0;subst h1;exact⟨rfl,rfl⟩
 .rw[e];by_cases h1:q.den=1
  .grind
  .rw[ae h1];refine .inr ⟨h1,?_⟩;unfold rs;rw[dS];exact q.reduced
theorem Hq(q:Rat):rq (rn q) (rs q) (rd q)=q:=by grind[rq,Ed,ad1,rs,rn,dS,Ec,Rat.mkRat_self]
def I9{n:Bool}{s d:ByteArray}(h:MC n s d):(rq n s d).num=wL n (nv s)/\(rq n s d).den=dn d:=by obtain⟨h1,h2,h3,h4⟩:=h;unfold rq;rw[ab ⟨h1,h2,h3,h4⟩];grind[dn,ni,Nat.gcd_one_left,Rat.num_mkRat,Rat.den_mkRat]
def rG{n:Bool}{s d:ByteArray}(h:MC n s d):rn (rq n s d)=n/\rs (rq n s d)=s/\rd (rq n s d)=d:=by
 obtain⟨e1,e2⟩:=I9 h;obtain⟨h1,h2,h3,h4⟩:=h;refine⟨?_,?_,?_⟩
 .grind[rn,Yz,adW]
 .grind[rs,ni]
 .unfold rd;rw[e2];unfold dn;rcases h4 with h4|⟨h5,h6⟩
  .rw[ab h4,ab rfl,<-h2,h4];rfl
  .by_cases h7:nv d=0
   .rw[ab h7,ab rfl,<-h2,h7];rfl
   grind
theorem abB{n:Bool}{s d:ByteArray}(h:¬MC n s d):rq n s d=0:=by grind[rq]
theorem abC{p q:Rat}(h1:rn p=rn q)(h2:rs p=rs q)(h3:rd p=rd q):p=q:=by grind[Hq]
def fr(n:Bool)(x y:Nat):Rat:=mkRat (wL n x) y
def VO(n:Bool)(y:Nat):fr n 0 y=0:=by simp_all[fr,Yz]
theorem abD{n:Bool}{x y:Nat}(hy:0<y):(fr n x y).num=wL n (x/Nat.gcd x y)/\(fr n x y).den=y/Nat.gcd x y:=by
 unfold fr;have hg:y.gcd (wL n x).natAbs=Nat.gcd x y:=by grind[ni]
 constructor
 .rw[Rat.num_mkRat,ae jb,hg];have hdv:(Nat.gcd x y)∣x:=Nat.gcd_dvd_left x y;unfold wL;cases n
  .simp
  .simp only[fX];rw[Int.neg_ediv_of_dvd (by exact_mod_cast hdv),Int.natCast_ediv]
 grind[Rat.den_mkRat]
def Ug{n:Bool}{x y:Nat}(hx:0<x)(hy:0<y):rn (fr n x y)=n/\rs (fr n x y)=bn (x/Nat.gcd x y)/\rd (fr n x y)=if y/Nat.gcd x y=1 then⟨#[]⟩else bn (y/Nat.gcd x y):=by grind[Go.Proofs.Ins.abD,Nat.div_pos,Nat.gcd_le_left,Nat.gcd_pos_of_pos_left,Go.Proofs.Ins.rn,Go.Proofs.Ins.adW,Go.Proofs.Ins.rs,Go.Proofs.Ins.ni,Go.Proofs.Ins.rd]
def nm(q:Rat):Nat:=q.num.natAbs
def Hr(q:Rat):nv (rs q)=nm q:=dS _
theorem Ja(q:Rat):fr (rn q) (nm q) q.den=q:=by simp_all[fr,rn,nm,Ec]
theorem O8(q:Rat):wL (rn q) (nm q)=q.num:=Ec _
def pK{q:Rat}:nm q=0↔q=0:=by grind[nm,Rat.num_eq_zero]
def kG{q:Rat}:rs q=⟨#[]⟩↔q=0:=by simp_all[rs,Ea]
def VP{q:Rat}:rn q=true↔q<0:=by simp_all[rn,Rat.lt_iff]
def O9{q:Rat}:rn q=false↔0<=q:=by simp_all[rn]
def VQ(a b:Rat):a*b=fr (rn a !=rn b) (nm a*nm b) (a.den*b.den):=by grind[fr,adZ,O8,Rat.mul_def']
def VR{a b:Rat}(hb:b≠0):a/b=fr (rn a !=rn b) (nm a*b.den) (a.den*nm b):=by
 have h1:0<nm b:=et λh=>hb (pK.mp h);have h2:fr (rn a !=rn b) (nm a*b.den) (a.den*nm b)*b=a:=by
  rw[VQ];have e1:=Ja a;have hd:=a.den_pos;have hbd:=b.den_pos;generalize hz:fr (rn a !=rn b) (nm a*b.den) (a.den*nm b)=z;have hz0:z=mkRat (wL (rn a !=rn b) (nm a*b.den)) (a.den*nm b):=hz.symm;rw[<-VQ,hz0,<-Ja b];unfold fr;rw[Rat.mkRat_mul_mkRat,adZ];rw[show nm (mkRat (wL (rn b) (nm b)) b.den)=nm b by grind[Ja,fr]];rw[show rn (mkRat (wL (rn b) (nm b)) b.den)=rn b by grind[Ja,fr]];rw[show(mkRat (wL (rn b) (nm b)) b.den).den=b.den by grind[Ja,fr]];have e3:((rn a !=rn b) !=rn b)=rn a:=by simp
  rw[e3];have e4:wL (rn a) (nm a*b.den*nm b)=wL (rn a) (nm a)*((b.den*nm b:Nat):Int):=by grind[wL]
  rw[e4,O8];rw[show a.den*nm b*b.den=a.den*(b.den*nm b) by grind];rw[Rat.mkRat_mul_right (by have:=bR hbd h1;omega),Rat.mkRat_self]
 grind
def VT(a b:Rat):a+b=mkRat (wL (rn a) (nm a*b.den)+wL (rn b) (nm b*a.den)) (a.den*b.den):=by rw[Rat.add_def'];grind[O8,wL]
def CB(n:Bool)(x y:Nat):wL n x+wL n y=wL n (x+y):=by grind[wL]
def pO{n m:Bool}(h:n≠m){x y:Nat}(hle:y<=x):wL n x+wL m y=wL n (x-y):=by grind[wL]
def YB{a b:Rat}(h:a.den=b.den):a+b=mkRat (wL (rn a) (nm a)+wL (rn b) (nm b)) a.den:=by
 have hd:=a.den_pos;rw[VT,<-h];have e:wL (rn a) (nm a*a.den)+wL (rn b) (nm b*a.den)=(wL (rn a) (nm a)+wL (rn b) (nm b))*(a.den:Int):=by grind[wL]
 rw[e,Rat.mkRat_mul_right jb]
def sg(q:Rat):Int:=if q=0 then 0 else if q<0 then-1 else 1
def nC(a b:Rat):Int:=sg (a-b)
def VU{q:Rat}(h:nm q=0):sg q=0:=by unfold sg;rw[ab (pK.mp h)]
def aiH{q:Rat}(h:rn q=true):sg q=-1:=by have h1:=VP.mp h;grind[sg]
def aiI{q:Rat}(h:rn q=false)(h2:nm q≠0):sg q=1:=by have h1:=O9.mp h;unfold sg;rw[ae (λe=>h2 (pK.mpr e)),ae kd]
theorem CG{a b:Rat}(h:a<b):nC a b=-1:=by grind[nC,sg]
theorem CJ{a b:Rat}(h:b<a):nC a b=1:=by grind[nC,sg]
theorem Jb(a:Rat):nC a a=0:=by unfold nC;rw[Rat.sub_self];rfl
def yA{a b:Rat}:nC a b<=0↔a<=b:=by grind[CG,Jb,CJ]
def sN{a b:Rat}:nC a b<0↔a<b:=by grind[CJ,Jb,CG]
def Sm(k:Nat)(q:Rat):Prop:=nm q<256^k/\q.den<256^k
def Sm.mono{k l:Nat}{q:Rat}(h:Sm k q)(hkl:k<=l):Sm l q:=
 ⟨aE h.1 (bN jb hkl),aE h.2 (bN jb hkl)⟩
theorem Sm.rs{k:Nat}{q:Rat}(h:Sm k q):(rs q).size<=k:=mZ h.1
theorem Sm.rd{k:Nat}{q:Rat}(h:Sm k q):(rd q).size<=k:=by
 unfold Ins.rd;split
 .exact aR _
 .exact mZ h.2
theorem an0(k:Nat)(hk:0<k):Sm k 0:=⟨du jb,by show 1<256^k;grind⟩
def axT{n:Bool}{s d:ByteArray}{k:Nat}(hs:s.size<=k)(hd:d.size<=k)(hk:0<k):Sm k (rq n s d):=by
 by_cases h:MC n s d
 .obtain⟨e1,e2⟩:=I9 h;constructor
  .grind[nm,ni,Nat.lt_of_lt_of_le,Yv,Nat.pow_le_pow_right]
  grind[dn,Nat.lt_of_lt_of_le,Yv,Nat.pow_le_pow_right]
 grind[abB,an0]
def asc{n:Bool}{x y k:Nat}(hx:x<256^k)(hy:y<256^k)(hy0:0<y):Sm k (fr n x y):=by
 obtain⟨e1,e2⟩:=abD (n:=n) (x:=x) hy0;constructor
 .unfold nm;rw[e1,ni];exact cT (fk _ _) hx
 .rw[e2];exact cT (fk _ _) hy
def kU{x y k l:Nat}(hx:x<256^k)(hy:y<256^l):x*y<256^(k+l):=by
 rw[dx];have h0:0<256^k:=du jb;rcases fR y with rfl|h
 .simp_all
 .exact aE (eZ hx h) (cn _ (ip hy))
def Sm.div{k l:Nat}{a b:Rat}(h:Sm k a)(h2:Sm l b)(hb:b≠0):Sm (k+l) (a/b):=by rw[VR hb];exact asc (kU h.1 h2.2) (kU h.2 h2.1) (bR a.den_pos (et λh=>hb (pK.mp h)))
def aiJ(i:Int)(y:Nat):mkRat i y=fr (decide (i<0)) i.natAbs y:=by unfold fr;rw[Ec]
theorem Sm.add{k l:Nat}{a b:Rat}(h:Sm k a)(h2:Sm l b):Sm (k+l+1) (a+b):=by rw[VT,aiJ];have h3:=kU h.1 h2.2;have h4:=kU h2.1 h.2;have h5:=kU h.2 h2.2;rw[dC l k]at h4;have e:(256:Nat)^(k+l+1)=256*256^(k+l):=jb;refine asc ?_ jb (bR a.den_pos b.den_pos);grind[ni]
def Sm.neg{k:Nat}{a:Rat}(h:Sm k a):Sm k (-a):=by
 refine⟨?_,h.2⟩;have:nm (-a)=nm a:=by grind[nm,Rat.neg_num]
 rw[this];exact h.1
def aiK{a:Rat}(h:nm a≠0):rn (-a)= !(rn a):=by grind[rn,Rat.neg_num,nm]
def abE(a:Rat):rs (-a)=rs a:=by grind[rs,Rat.neg_num]
def abG(a:Rat):rd (-a)=rd a:=rfl
def Sm.sub{k l:Nat}{a b:Rat}(h:Sm k a)(h2:Sm l b):Sm (k+l+1) (a-b):=by rw[gx];exact h.add h2.neg
end Go.Proofs.Ins
namespace Go.Proofs.Ins
open Go.RowKit
end Go.Proofs.Ins
