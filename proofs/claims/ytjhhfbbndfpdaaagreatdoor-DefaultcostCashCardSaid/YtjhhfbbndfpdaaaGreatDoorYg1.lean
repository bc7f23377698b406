import Derived.WalkKit
import Derived.WalkSpells
import Derived.WalkLawsBesides
import Derived.Maps.AppendAt
import Derived.Laws.BytesArg
import Derived.StillTail
import Derived.Lib.QuietBelow
import Derived.BigQuiet
import Derived.StillTailTactics
import Derived.IntWalk
import Derived.Lib.Hide
theorem Go.Proofs.jb{p:Prop}(h:p:=by omega):p:=h
theorem Go.Proofs.jj{p:Prop}(h:p:=by decide):p:=h
theorem Go.Proofs.kc{p:Prop}(h:p:=by simp):p:=h
theorem Go.Proofs.kf{p:Prop}(h:p:=by first|omega|(dsimp only;omega)):p:=h
theorem Go.Proofs.kg{p:Prop}(h:p:=by first|(left;omega)|(left;dsimp only;omega)|(right;simp)):p:=h
theorem Go.Proofs.kd{p:Prop}(h:p:=by grind):p:=h
theorem Go.Proofs.jz{p:Prop}(h:p:=by first|assumption|decide|omega):p:=h
theorem Go.Proofs.jp{n:Nat}:n<=n:=Nat.le_refl n
theorem Go.Proofs.jx{p:Prop}(h:p):Go.RowKit.Hid p:=h
set_option linter.all false
namespace Go.Proofs
def ab:=@if_pos
def ae:=@if_neg
def af:=@decide_eq_false
def am:=@true_and
def ap:=@Bool.and_eq_true
def aq:=@decide_eq_true
def ar:=@Nat.le_trans
def aw:=@Nat.eq_of_beq_eq_true
def ax:=@List.length_append
def az:=@Nat.le_of_ble_eq_true
def aD:=@List.getElem_of_mem
def aE:=@Nat.lt_of_lt_of_le
def aL:=@Nat.dvd_mul_right
def aM:=@Nat.zero_le
def aR:=@Rat.le_refl
def aT:=@Option.some.injEq
def be:=@Rat.mul_le_mul_of_nonneg_right
def bh:=@Nat.mul_le_mul_right
def bj:=@Rat.natCast_le_natCast
def bp:=@congrArg
def bq:=@Nat.pow_le_pow_right
def br:=@Classical.byContradiction
def bw:=@List.mem_cons
def bz:=@congrFun
def bA:=@Nat.mod_eq_of_lt
def bB:=@Nat.lt_succ_self
def bL:=@List.length_cons
def bN:=@Nat.dvd_trans
def bO:=@Nat.add_zero
def bR:=@List.length_singleton
def bX:=@Nat.mul_pos
def bY:=@List.mem_append
def ce:=@cond_true
def cf:=@Nat.mul_le_mul_left
def cg:=@Rat.mul_nonneg
def cj:=@Nat.succ_mul
def ck:=@Nat.zero_add
def cn:=@List.length_map
def cr:=@List.take_length
def cw:=@Int.eq_ofNat_of_zero_le
def cx:=@Nat.le_refl
def cy:=@List.all_cons
def cA:=@Nat.mod_lt
def cB:=@Int.ofNat_eq_natCast
def cC:=@List.mem_flatMap
def cD:=@Nat.mul_dvd_mul_left
def cE:=@Array.length_toList
def cF:=@Rat.le_trans
def cG:=@Nat.mul_le_mul
def cH:=@List.take_zero
def cI:=@Bool.and_self
def cK:=@of_decide_eq_true
def cL:=@List.flatMap_append
def cM:=@Nat.lt_succ_iff_lt_or_eq
def cN:=@Rat.add_zero
def cP:=@Rat.mul_le_mul_of_nonneg_left
def cQ:=@List.getD_eq_getElem?_getD
def cR:=@Nat.mul_comm
def cT:=@List.mem_map
def cU:=@Prod.mk.injEq
def cV:=@Rat.intCast_mul
def cW:=@Nat.lt_of_le_of_lt
def cY:=@Nat.eq_zero_or_pos
def da:=@Bool.false_eq_true
def dc:=@Rat.div_mul_cancel
def de:=@Nat.pow_succ
def df:=@Nat.lt_or_ge
def di:=@List.all_nil
def dj:=@List.length_take
def dm:=@eq_self
def dp:=@Nat.pow_pos
def dq:=@List.mem_singleton
def dt:=@Nat.div_add_mod
def du:=@List.append_nil
def dx:=@Nat.le_succ
def dy:=@List.any_eq_true
def dC:=@Nat.add_comm
def dE:=@Rat.mul_lt_mul_of_pos_right
def dT:=@Nat.pow_add
def dX:=@Nat.div_lt_of_lt_mul
def ec:=@Rat.le_of_lt
def eg:=@List.mem_of_mem_take
def eh:=@List.take_of_length_le
def eo:=@Nat.pos_of_ne_zero
def et:=@Nat.mul_lt_mul_of_pos_right
def eA:=@List.all_eq_true
def eC:=@Nat.mul_one
def eE:=@Option.some.inj
def eI:=@Rat.natCast_mul
def eJ:=@Rat.intCast_inj
def eL:=@Nat.ble_eq_true_of_le
def eM:=@List.eq_nil_of_length_eq_zero
def eN:=@Nat.mul_assoc
def eO:=@Nat.lt_irrefl
def eQ:=@cond_false
def eV:=@Int.natAbs_mul
def eZ:=@decide_eq_true_eq
def fa:=@List.range_succ
def fe:=@Int.toNat_of_nonneg
def ff:=@Array.getElem?_eq_some_iff
def fg:=@Nat.lt_of_mul_lt_mul_right
def fh:=@List.length_drop
def fi:=@List.cons_append
def fj:=@Nat.div_le_self
def fk:=@List.mem_filter
def fm:=@List.nodup_append
def fo:=@Nat.le_mul_of_pos_right
def fq:=@List.take_succ_cons
def ft:=@Nat.div_eq_of_lt
def fu:=@List.mem_range
def fv:=@Nat.le_of_not_lt
def fw:=@Rat.intCast_le_intCast
def fR:=@Rat.sub_eq_add_neg
def fS:=@Array.getD_eq_getD_getElem?
def fT:=@Int.natCast_nonneg
def fW:=@Rat.zero_add
def fX:=@Rat.mul_comm
def fY:=@Rat.natCast_add
def fZ:=@Nat.le_of_dvd
def ga:=@Int.toNat_natCast
def gb:=@List.size_toArray
def gc:=@List.flatMap_cons
def gd:=@decide_true
def gg:=@List.drop_zero
def gh:=@List.getElem?_eq_getElem
def gi:=@Nat.zero_mul
def gj:=@Nat.lt_trans
def gk:=@Nat.dvd_mul_left
def gm:=@List.length_eq_zero_iff
def gn:=@List.nil_append
def gp:=@Nat.min_eq_left
def gw:=@List.nodup_cons
def gx:=@Rat.mul_eq_zero
def gA:=@Rat.not_lt
def gC:=@Bool.eq_iff_iff
def gH:=@Nat.one_le_two_pow
def gL:=@Int.natAbs_natCast
def gN:=@Nat.add_mul
def gO:=@List.take_append_of_le_length
def gP:=@List.length_range
def gR:=@Bool.not_eq_true'
def gS:=@List.append_assoc
def gT:=@if_true
def hJ:=@Nat.dvd_refl
def ia:=@Nat.le_of_eq
def ib:=@Nat.two_pow_add_eq_or_of_lt
def ic:=@List.mem_append_left
def ie:=@List.flatMap_map
def ii:=@Nat.shiftRight_xor_distrib
def ij:=@Rat.add_assoc
def ik:=@List.nodup_iff_pairwise_ne
def il:=@Rat.one_mul
def im:=@List.map_congr_left
def io:=@List.pairwise_iff_getElem
def ip:=@List.length_set
def ir:=@Nat.mul_succ
def it:=@Nat.le_of_lt
def iu:=@Nat.mul_zero
def iz:=@Nat.add_sub_cancel
def iA:=@Nat.xor_lt_two_pow
def iB:=@List.drop_drop
end Go.Proofs
namespace Go.Proofs.Ins
def LB:Nat:=4294967296
theorem jf:0<LB:=by unfold LB;omega
def awY:LB=4294967296:=rfl
def lv(f:Nat->Nat):Nat->Nat
 |0=>0
 |k+1=>lv f k+LB^k*f k
theorem zG(f:Nat->Nat):lv f 0=0:=rfl
theorem dB(f:Nat->Nat)(k:Nat):lv f (k+1)=lv f k+LB^k*f k:=rfl
theorem jH{f g:Nat->Nat}{n:Nat}(h:∀j,j<n->f j=g j):lv f n=lv g n:=by
 induction n with
 |zero=>rfl
 |succ k ih=>grind[dB]
def Dy{f:Nat->Nat}{n:Nat}(h:∀j,j<n->f j<LB):lv f n<LB^n:=by
 induction n with
 |zero=>simp[lv]
 |succ k ih=>
  have h1:=ih (λj hj=>h j jb)
  have h2:=h k jb
  have h3:LB^k*f k+LB^k<=LB^k*LB:=by rw[<-ir];exact cf _ h2
  rw[dB,de];omega
theorem yt(f:Nat->Nat)(n m:Nat):lv f (n+m)=lv f n+LB^n*lv (λj=>f (n+j)) m:=by
 induction m with
 |zero=>simp[lv]
 |succ k ih=>
  grind[dB]
theorem Ya(f:Nat->Nat)(m:Nat):lv f (m+1)=f 0+LB*lv (λj=>f (j+1)) m:=by have h:=yt f 1 m;grind[lv]
theorem Il{f:Nat->Nat}{n:Nat}(h:∀j,j<n->f j=0):lv f n=0:=by
 induction n with
 |zero=>rfl
 |succ k ih=>grind[dB]
def adv{f:Nat->Nat}{n m:Nat}(hn:n<=m)(h:∀j,n<=j->j<m->f j=0):lv f m=lv f n:=by grind[Nat.exists_eq_add_of_le,yt,Il]
def upd(f:Nat->Nat)(i v:Nat):Nat->Nat:=λj=>if j=i then v else f j
theorem upd_same(f:Nat->Nat)(i v:Nat):upd f i v i=v:=by simp[upd]
theorem bW(f:Nat->Nat)(i v:Nat){j:Nat}(h:j≠i):upd f i v j=f j:=by simp[upd,h]
theorem AV(f:Nat->Nat){i v n:Nat}(h:n<=i):lv (upd f i v) n=lv f n:=
 jH λj hj=>bW f i v jb
theorem aa4(f:Nat->Nat){i v n:Nat}(h:i<n):lv (upd f i v) n+LB^i*f i=lv f n+LB^i*v:=by
 induction n with
 |zero=>omega
 |succ k ih=>
  grind[dB,AV,upd_same,bW]
def Can(f:Nat->Nat)(n:Nat):Prop:=(∀j,j<n->f j<LB)/\(n=0\/f (n-1)≠0)
def Can.ge{f:Nat->Nat}{n:Nat}(h:Can f n)(hn:0<n):LB^(n-1)<=lv f n:=by
 obtain⟨k,rfl⟩:∃k,n=k+1:=⟨n-1,jb⟩
 have h2:f k≠0:=by rcases h.2 with h|h;omega;grind
 rw[dB];have h3:1<=f k:=jb;have:=cf (LB^k) h3;grind
def Can.lt{f:Nat->Nat}{n:Nat}(h:Can f n):lv f n<LB^n:=Dy h.1
def Can.Io{f:Nat->Nat}{n:Nat}(h:Can f n):lv f n=0↔n=0:=by
 constructor
 .intro h0;by_cases hn:n=0
  .exact hn
  .have:=h.ge jb;grind[jf]
 .rintro rfl;rfl
def Can.DC{f g:Nat->Nat}{n m:Nat}(hf:Can f n)(hg:Can g m)(h:n<m):lv f n<lv g m:=by have h1:=hf.lt;have h2:=hg.ge jb;have h3:LB^n<=LB^(m-1):=bq jf jb;omega
def xG{f g:Nat->Nat}{n k:Nat}(hf:∀j,j<n->f j<LB)(hg:∀j,j<n->g j<LB)
  (hk:k<n) (he:∀j,k<j->j<n->f j=g j) (hlt:f k<g k):lv f n<lv g n:=by
 obtain⟨d,rfl⟩:=Nat.exists_eq_add_of_le (show k+1<=n by omega)
 rw[yt f,yt g,jH (f:=λj=>f (k+1+j)) (g:=λj=>g (k+1+j)) (λj hj=>he _ jb jb),dB,dB]
 have h1:=Dy (f:=f) (n:=k) (λj hj=>hf j jb)
 have h2:LB^k*f k+LB^k<=LB^k*g k:=by rw[<-ir];exact cf _ hlt
 omega
def Ae(f:Nat->Nat):Nat->Nat
 |0=>0
 |k+1=>if f k=0 then Ae f k else k+1
theorem Ip(f:Nat->Nat)(n:Nat):Ae f n<=n:=by
 induction n with
 |zero=>simp[Ae]
 |succ k ih=>grind[Ae]
def afA(f:Nat->Nat)(n:Nat):∀j,Ae f n<=j->j<n->f j=0:=by
 induction n with
 |zero=>omega
 |succ k ih=>
  grind[Ae]
def ah7(f:Nat->Nat)(n:Nat):Ae f n=0\/f (Ae f n-1)≠0:=by
 induction n with
 |zero=>simp[Ae]
 |succ k ih=>
  grind[Ae]
def Yb{f:Nat->Nat}{n:Nat}(h:∀j,j<n->f j<LB):Can f (Ae f n):=
 ⟨λj hj=>h j (by grind[Ip]),ah7 f n⟩
def VG(f:Nat->Nat)(n:Nat):lv f (Ae f n)=lv f n:=(adv (Ip f n) (afA f n)).symm
def bv(l:List UInt8):Nat:=l.foldl (λa b=>a*256+b.toNat) 0
theorem asb:bv []=0:=rfl
def am6(l:List UInt8)(b:UInt8):bv (l++[b])=bv l*256+b.toNat:=by grind[bv]
def Uf(l r:List UInt8):bv (l++r)=bv l*256^r.length+bv r:=by
 have h:∀(r:List UInt8) (a:Nat),r.foldl (λa b=>a*256+b.toNat) a=a*256^r.length+r.foldl (λa b=>a*256+b.toNat) 0:=by
  intro r;induction r with
  |nil=>simp
  |cons b r ih=>
   grind
 grind[bv]
def xH(b:UInt8)(l:List UInt8):bv (b::l)=b.toNat*256^l.length+bv l:=by have h:=Uf [b] l;grind[bv]
def Mc(l:List UInt8):bv l<256^l.length:=by
 induction l with
 |nil=>simp[bv]
 |cons b l ih=>
  rw[xH,bL,de]
  have h1:=b.toNat_lt
  have h2:b.toNat*256^l.length+256^l.length<=256*256^l.length:=by rw[<-cj];exact bh _ jb
  omega
def bnF:Nat->Nat->List UInt8
 |0,_=>[]
 |k+1,n=>if n=0 then []else bnF k (n/256)++[UInt8.ofNat (n%256)]
def Na(n:Nat):List UInt8:=bnF n n
theorem ah8:∀(k n:Nat),n<=k->bv (bnF k n)=n:=by
 intro k;induction k with
 |zero=>
  intro n h;have:n=0:=jb
  subst this;rfl
 |succ k ih=>
  intro n h
  unfold bnF
  split
  .rename_i h0;subst h0;rfl
  .rw[am6,ih (n/256) jb]
   have:(UInt8.ofNat (n%256)).toNat=n%256:=by simp
   omega
def OJ(n:Nat):bv (Na n)=n:=ah8 n n jp
def ah9:∀(k n:Nat),n<=k->(bnF k n).head?≠some 0:=by
 intro k;induction k with
 |zero=>grind[bnF]
 |succ k ih=>
  intro n h
  unfold bnF
  split
  .simp
  .rename_i h0
   by_cases h1:n/256=0
   .have:bnF k (n/256)=[]:=by rw[h1];cases k<;>simp[bnF]
    rw[this]
    simp only[gn,List.head?_cons,ne_eq,aT]
    intro h2
    have h3:(UInt8.ofNat (n%256)).toNat=0:=by simp_all
    have:(UInt8.ofNat (n%256)).toNat=n%256:=by simp
    omega
   .have h2:=ih (n/256) jb
    rw[List.head?_append]
    cases h3:(bnF k (n/256)).head? with
    |none=>
     have:bnF k (n/256)=[]:=by simp_all
     grind[ah8,bv]
    |some b=>grind
def Iq(n:Nat):(Na n).head?≠some 0:=ah9 n n jp
def Ug{l:List UInt8}(h:l.head?≠some 0)(hl:l≠[]):256^(l.length-1)<=bv l:=by
 cases l with
 |nil=>grind
 |cons b l=>
  rw[xH]
  have h1:b≠0:=by grind
  have h2:b.toNat≠0:=by intro h3;exact h1 (UInt8.toNat_inj.mp kd)
  have:1*256^l.length<=b.toNat*256^l.length:=bh _ jb
  grind
theorem aa5:∀{l r:List UInt8},l.length=r.length->bv l=bv r->l=r:=by
 intro l;induction l with
 |nil=>grind
 |cons b l ih=>
  intro r h hv
  cases r with
  |nil=>simp at h
  |cons c r=>
   have hl:l.length=r.length:=by grind
   rw[xH,xH,hl]at hv
   have h1:=Mc l;have h2:=Mc r
   rw[hl]at h1
   have hp:0<256^r.length:=dp jb
   have e1:(b.toNat*256^r.length+bv l)/256^r.length=b.toNat:=by grind[Nat.add_mul_div_right,Nat.div_eq_of_lt]
   have e2:(c.toNat*256^r.length+bv r)/256^r.length=c.toNat:=by grind[Nat.add_mul_div_right,Nat.div_eq_of_lt]
   have e3:b.toNat=c.toNat:=by grind
   have e4:b=c:=UInt8.toNat_inj.mp e3
   grind
def aa6{l:List UInt8}(h:l.head?≠some 0):Na (bv l)=l:=by
 have h1:=OJ (bv l);have h2:=Iq (bv l);by_cases hl:l=[]
 .subst hl;rfl
 by_cases hr:Na (bv l)=[]
 .rw[hr]at h1;have:=Ug h hl;grind[asb]
 have g1:=Ug h hl;have g2:=Ug h2 hr;have l1:=Mc l;have l2:=Mc (Na (bv l));rw[h1]at g2 l2;have hlen:(Na (bv l)).length=l.length:=by
  have hp1:0<l.length:=List.length_pos_iff.mpr hl;have hp2:0<(Na (bv l)).length:=List.length_pos_iff.mpr hr;rcases Nat.lt_trichotomy (Na (bv l)).length l.length with c|c|c
  .have:256^(Na (bv l)).length<=256^(l.length-1):=bq jb jb;omega
  .exact c
  .have:256^l.length<=256^((Na (bv l)).length-1):=bq jb jb;omega
 grind[aa5]
def Ti{n k:Nat}(h:n<256^k):(Na n).length<=k:=by
 by_cases hn:Na n=[]
 .grind
 .have:=Ug (Iq n) hn;rw[OJ]at this;have:256^((Na n).length-1)<256^k:=jb;grind[Nat.pow_lt_pow_iff_right]
def bn(n:Nat):ByteArray:=⟨(Na n).toArray⟩
def nv(s:ByteArray):Nat:=bv s.data.toList
def afB(n:Nat):(bn n).data.toList=Na n:=by simp[bn]
theorem gU(n:Nat):nv (bn n)=n:=by unfold nv;rw[afB,OJ]
def oM{n k:Nat}(h:n<256^k):(bn n).size<=k:=by simp_all[Ti,bn,ByteArray.size]
theorem Yc(s:ByteArray):nv s<256^s.size:=
 Mc s.data.toList
def aa7{n m:Nat}(h:bn n=bn m):n=m:=by grind[gU]
theorem J7{s:ByteArray}(h:s.data.toList.head?≠some 0):bn (nv s)=s:=by have:Na (bv s.data.toList)=s.data.toList:=aa6 h;simp_all[bn,nv]
theorem Ir:bn 0=⟨#[]⟩:=rfl
theorem DF(n:Nat):bn n=⟨#[]⟩↔n=0:=by
 constructor
 .intro h;exact aa7 (h.trans Ir.symm)
 .rintro rfl;rfl
def bl(f:Nat->Nat):Nat->Nat
 |0=>0
 |k+1=>bl f k+256^k*f k
theorem OL{f g:Nat->Nat}{n:Nat}(h:∀j,j<n->f j=g j):bl f n=bl g n:=by
 induction n with
 |zero=>rfl
 |succ k ih=>grind[bl]
def NM(s:ByteArray)(k:Nat):Nat:=(s.data.toList.getD (s.size-1-k) 0).toNat
def VH(s:ByteArray)(k:Nat):NM s k<256:=UInt8.toNat_lt _
theorem Yd(s:ByteArray):s.data.toList.length=s.size:=rfl
def awZ(l:List UInt8):bl (λk=>(l.getD (l.length-1-k) 0).toNat) l.length=bv l:=by
 induction l with
 |nil=>rfl
 |cons x l ih=>
  rw[xH]
  have e0:(x::l).length=l.length+1:=rfl
  rw[e0]
  grind[bl,OL]
def aa8(s:ByteArray):bl (NM s) s.size=nv s:=awZ s.data.toList
def pw(b:Nat->Nat)(k j:Nat):Nat:=(if 4*j<k then b (4*j)else 0)+(if 4*j+1<k then b (4*j+1)*256 else 0)+(if 4*j+2<k then b (4*j+2)*65536 else 0)+(if 4*j+3<k then b (4*j+3)*16777216 else 0)
def Ye{b:Nat->Nat}(hb:∀k,b k<256)(k j:Nat):pw b k j<LB:=by grind[pw,LB]
def VI(b:Nat->Nat)(j:Nat):pw b 0 j=0:=by simp[pw]
def aia{b:Nat->Nat}(hb:∀k,b k<256)(k:Nat):pw b k (k/4)<2^(8*(k%4)):=by have h0:=hb (4*(k/4));grind[pw]
theorem Iu(b:Nat->Nat)(k j:Nat):pw b (k+1) j=upd (pw b k) (k/4) (pw b k (k/4)+b k*2^(8*(k%4))) j:=by
 by_cases hj:j=k/4
 .grind[upd_same,pw]
 grind[bW,pw]
def VJ(k:Nat):LB^k=256^(4*k):=by rw[Nat.pow_mul];rfl
theorem asc(k:Nat):256^k=LB^(k/4)*2^(8*(k%4)):=by
 have h:(256:Nat)=2^8:=by decide
 rw[VJ,h,<-Nat.pow_mul,<-Nat.pow_mul,<-dT];congr 1;omega
def aq4(b:Nat->Nat){k n:Nat}(hk:k<=4*n):lv (pw b k) n=bl b k:=by
 induction k with
 |zero=>rw[Il (λj _=>VI b j)];rfl
 |succ k ih=>
  rw[jH (λj _=>Iu b k j)]
  grind[aa4,bl,asc]
def lby(f:Nat->Nat)(k:Nat):Nat:=f (k/4)/2^(8*(k%4))%256
def ase(f:Nat->Nat)(n:Nat):bl f (n+4)=bl f n+256^n*(f n+256*f (n+1)+65536*f (n+2)+16777216*f (n+3)):=by grind[bl]
def asf{f:Nat->Nat}{n:Nat}(h:∀j,j<n->f j<LB):bl (lby f) (4*n)=lv f n:=by
 induction n with
 |zero=>rfl
 |succ k ih=>
  have hk:=h k jb
  rw[show 4*(k+1)=4*k+4 from rfl,ase,ih (λj hj=>h j jb),dB,VJ]
  congr 1
  have d0:lby f (4*k)=f k%256:=by simp_all[lby]
  have d1:lby f (4*k+1)=f k/256%256:=by unfold lby;rw[show(4*k+1)/4=k by omega,show(4*k+1)%4=1 by omega]
  have d2:lby f (4*k+2)=f k/65536%256:=by unfold lby;rw[show(4*k+2)/4=k by omega,show(4*k+2)%4=2 by omega]
  have d3:lby f (4*k+3)=f k/16777216%256:=by unfold lby;rw[show(4*k+3)/4=k by omega,show(4*k+3)%4=3 by omega]
  grind[LB]
def ext(f:Nat->Nat)(n:Nat):Nat->Nat:=λj=>if j<n then f j else 0
theorem yu{f:Nat->Nat}{n j:Nat}(h:j<n):ext f n j=f j:=by simp[ext,h]
theorem xI{f:Nat->Nat}{n j:Nat}(h:n<=j):ext f n j=0:=by grind[Go.Proofs.Ins.ext]
theorem OM{f:Nat->Nat}{n m:Nat}(h:n<=m):lv (ext f n) m=lv f n:=by rw[adv h (λj h1 _=>xI h1)];grind[jH,yu]
def J8{f:Nat->Nat}{n:Nat}(h:∀j,j<n->f j<LB)(j:Nat):ext f n j<LB:=by grind[Go.Proofs.Ins.ext,Go.Proofs.Ins.jf]
def Ii(f g:Nat->Nat):Nat->Nat
 |0=>0
 |k+1=>(f k+g k+Ii f g k)/LB
def sdg(f g:Nat->Nat)(k:Nat):Nat:=(f k+g k+Ii f g k)%LB
theorem DI(f g:Nat->Nat)(k:Nat):Ii f g (k+1)=(f k+g k+Ii f g k)/LB:=rfl
theorem aa9{f g:Nat->Nat}(hf:∀j,f j<LB)(hg:∀j,g j<LB)(k:Nat):Ii f g k<=1:=by
 induction k with
 |zero=>simp[Ii]
 |succ k ih=>
  grind[DI,LB]
theorem aib(f g:Nat->Nat)(k:Nat):lv (sdg f g) k+LB^k*Ii f g k=lv f k+lv g k:=by
 induction k with
 |zero=>rfl
 |succ k ih=>
  grind[dB,Ii,sdg,Nat.div_add_mod]
def Md(f g:Nat->Nat):Nat->Nat
 |0=>0
 |k+1=>if f k<g k+Md f g k then 1 else 0
def Yf(f g:Nat->Nat)(k:Nat):Nat:=(f k+LB*Md f g (k+1))-g k-Md f g k
theorem DJ(f g:Nat->Nat)(k:Nat):Md f g (k+1)=if f k<g k+Md f g k then 1 else 0:=rfl
theorem OO(f g:Nat->Nat)(k:Nat):Md f g k<=1:=by
 cases k with
 |zero=>simp[Md]
 |succ k=>grind[DJ]
theorem J9{f g:Nat->Nat}{k:Nat}(hf:f k<LB)(hg:g k<LB):Yf f g k+g k+Md f g k=f k+LB*Md f g (k+1)/\Yf f g k<LB:=by grind[OO,Yf,DJ]
def aic{f g:Nat->Nat}{k:Nat}(hf:∀j,j<k->f j<LB)(hg:∀j,j<k->g j<LB):lv (Yf f g) k+lv g k=lv f k+LB^k*Md f g k:=by
 induction k with
 |zero=>rfl
 |succ k ih=>
  grind[J9,dB]
def Ko(O0 O:Nat->Nat)(N i k c u:Nat)(fy:Nat->Nat):Prop:=
 lv O N+LB^(i+k)*c=lv O0 N+LB^i*(u*lv fy k)/\(∀j,j<N->O j<LB)/\(∀j,i+k<=j->O j=O0 j)/\c<LB
def Uh{O0:Nat->Nat}{N i u:Nat}{fy:Nat->Nat}(h:∀j,j<N->O0 j<LB):Ko O0 O0 N i 0 0 u fy:=
 ⟨by simp[lv],h,λ_ _=>rfl,jf⟩
def DK{u v o c:Nat}(hu:u<LB)(hv:v<LB)(ho:o<LB)(hc:c<LB):u*v+o+c<LB*LB:=by have h1:u*v<=(LB-1)*(LB-1):=cG jb jb;grind[LB]
def Yg{O0 O:Nat->Nat}{N i k c u:Nat}{fy:Nat->Nat}(h:Ko O0 O N i k c u fy)(hu:u<LB)(hv:fy k<LB)(hk:i+k<N):
  Ko O0 (upd O (i+k) ((u*fy k+O (i+k)+c)%LB)) N i (k+1) ((u*fy k+O (i+k)+c)/LB) u fy:=by
 obtain⟨h1,h2,h3,h4⟩:=h
 have hf:=DK hu hv (h2 (i+k) hk) h4
 refine⟨?_,?_,?_,?_⟩
 .grind[aa4,Nat.div_add_mod,lv]
 .intro j hj
  by_cases ej:j=i+k
  .simp_all[upd_same,cA,jf]
  grind[bW]
 .grind[bW]
 .exact dX hf
def adw{O0 O:Nat->Nat}{N i m c u X:Nat}{fy:Nat->Nat}(h:Ko O0 O N i m c u fy)(hm:i+m<N)(hz:∀j,i+m<=j->O0 j=0)(hX:lv O0 N=X*lv fy m):
  lv (upd O (i+m) c) N=(X+LB^i*u)*lv fy m/\(∀j,j<N->upd O (i+m) c j<LB)/\(∀j,i+1+m<=j->upd O (i+m) c j=0):=by
 obtain⟨h1,h2,h3,h4⟩:=h
 grind[Go.Proofs.Ins.aa4,Go.Proofs.Ins.upd_same,Go.Proofs.Ins.bW]
end Go.Proofs.Ins
namespace Go.Proofs.Ins
open Go.RowKit
def Row(w:World)(b:Nat)(T:TypeId)(k:IntKind)(n:Nat)(f:Nat->Nat):Prop:=
 ∃c,w.heap[b]?=some (.cells c T (0,0))/\c.size=n/\∀j,j<n->c[j]?=some (.int k (f j))
def Reads(w:World)(b off:Nat)(k:IntKind)(n:Nat)(f:Nat->Nat):Prop:=∀j,j<n->w.cell? ⟨b,off+j,none⟩=some (.int k (f j))
def Limbs(w:World)(a:Option Addr)(len:Nat)(x:Nat):Prop:=
 ∃f,lv f len=x/\Can f len/\(len=0\/∃b off,a=some ⟨b,off,none⟩/\Reads w b off .u32 len f)
def abb(a b s:Nat)(ha:a<2^s)(hb:a+b*2^s<4294967296):bits BinOp.or .u32 (a:Int) ((b:Int)*2^s)=((a+b*2^s:Nat):Int):=by
 have h1:((b:Int)*2^s)=((b*2^s:Nat):Int):=by push_cast;rfl
 rw[h1];rw[(bits_nat .u32 32 jj (λn h0 h1=>by rw[IntKind.wrap_u32];omega) a (b*2^s) jb jb).2];have h2:a|||b*2^s=a+b*2^s:=by rw[Nat.or_comm,cR,<-ib ha,dC]
 rw[<-h2]
def Iw{k:IntKind}{a b:Int}(h:a=b):Ending.returned (.int k a)=.returned (.int k b):=by rw[h]
def VK{a b:ByteArray}(h:a=b):Ending.returned (.string a)=.returned (.string b):=by rw[h]

section
variable {P:Program} {ops:Array Oper} {md:Region.Mode} {C:World→Prop}
end
def Blk(w:World)(b:Nat)(vs:Array Value):Prop:=∃T,w.heap[b]?=some (.cells vs T (0,0))
def Blk.lt{w:World}{b:Nat}{vs:Array Value}(h:Blk w b vs):b<w.heap.size:=by obtain⟨T,h⟩:=h;exact(ff.mp h).1
def Blk.block{w w':World}{b:Nat}{vs:Array Value}(h:Blk w b vs)(hb:w'.heap[b]?=w.heap[b]?):Blk w' b vs:=by obtain⟨T,h⟩:=h;exact⟨T,hb.trans h⟩
def Blk.below{w w':World}{b B:Nat}{vs:Array Value}(h:Blk w b vs)(hb:Below B w w')(hB:b<B):Blk w' b vs:=h.block (hb.block b hB)
def Blk.on{w w':World}{b:Nat}{vs:Array Value}(h:Blk w b vs)(hb:Below w.heap.size w w'):Blk w' b vs:=h.below hb h.lt
def Blk.new(w:World)(vs:Array Value)(T:TypeId):Blk (w.alloc (.cells vs T)) w.heap.size vs:=⟨T,heap_alloc_new w _⟩
def chain{B:Nat}{w0 w w':World}(h:Below B w0 w)(h2:Below w.heap.size w w')(hB:B<=w0.heap.size):Below B w0 w':=h.trans (h2.mono (ar hB h.size))
def asg{w w3:World}{vs:Array Value}{T:TypeId}(h:Below (w.alloc (.cells vs T)).heap.size (w.alloc (.cells vs T)) w3):
  Blk w3 w.heap.size vs/\Below w.heap.size w w3:=
 ⟨(Blk.new w vs T).on h,chain ((Below.refl _ _).alloc jp _) h jp⟩
def G8(w:World)(b off sz n:Nat)(F:Nat->List Value):Prop:=∀i j,i<n->j<sz->w.cell? ⟨b,off+i*sz+j,none⟩=(F i)[j]?
def G8.below{w w':World}{b off sz n B:Nat}{F:Nat->List Value}(h:G8 w b off sz n F)(hb:Below B w w')(hB:b<B):G8 w' b off sz n F:=λi j hi hj=>by rw[World.cell?_of_block (w:=w) (a:=⟨b,off+i*sz+j,none⟩) (hb.block b hB)];exact h i j hi hj
def afC(w:World)(a:Option Addr)(n sz:Nat)(F:Nat->List Value):Prop:=n=0\/∃b off,a=some ⟨b,off,none⟩/\b<w.heap.size/\G8 w b off sz n F
def mZ(w:World)(base:Nat)(T:TypeId)(sz:Nat)(v:Value)(n:Nat)(F:Nat->List Value):Prop:=
 w.ownsRow base T sz v n ((List.range n).flatMap F)/\∀i,i<n->(F i).length=sz
theorem mZ.nil(w:World)(base:Nat)(T:TypeId)(sz:Nat)(F:Nat->List Value):mZ w base T sz (.slice none 0 0) 0 F:=⟨⟨by simp,.inl ⟨rfl,rfl⟩⟩,λi hi=>jb⟩
def mZ.below{w w':World}{base B:Nat}{T:TypeId}{sz:Nat}{v:Value}{n:Nat}{F:Nat->List Value}(h:mZ w base T sz v n F)(hb:Below B w w')(hB:w.heap.size<=B):mZ w' base T sz v n F:=by
 obtain⟨⟨h1,h2⟩,h3⟩:=h;refine⟨⟨h1,?_⟩,h3⟩;rcases h2 with h2|⟨g,cap,cur,rfl,hb2,hg,hn,hm,hs,ht⟩
 .exact .inl h2
 .exact .inr ⟨g,cap,cur,rfl,hb2,(hb.block g (aE (ff.mp hg).1 hB)).trans hg,hn,hm,hs,ht⟩
def zH{F:Nat->List Value}{sz:Nat}:∀(n:Nat),(∀i,i<n->(F i).length=sz)->∀i j,i<n->j<sz->((List.range n).flatMap F)[i*sz+j]?=(F i)[j]?
 |0,_,i,j,hi,_=>jb
 |n+1,hF,i,j,hi,hj=>by
  rw[fa,cL];have hlen:((List.range n).flatMap F).length=n*sz:=by
   clear hi;induction n with
   |zero=>simp
   |succ n ih=>
    rw[fa,cL,ax,ih (λi hi=>hF i jb)]
    simp[hF n jb,cj]
  by_cases h:i<n
  .have h4:i*sz+j<n*sz:=by have:=bh sz (show i+1<=n by omega);rw[cj]at this;omega
   rw[List.getElem?_append_left jb];exact zH n (λi hi=>hF i jb) i j h hj
  .obtain rfl:i=n:=jb;rw[List.getElem?_append_right jb,hlen,show i*sz+j-i*sz=j by omega];simp
def mZ.form{w:World}{base:Nat}{T:TypeId}{sz:Nat}{v:Value}{n:Nat}{F:Nat->List Value}(h:mZ w base T sz v n F):
  (v=.slice none 0 0/\n=0)\/∃g cap,v=.slice (some ⟨g,0,none⟩) n cap/\base<=g/\n<=cap/\cap<=9223372036854775807/\g<w.heap.size/\G8 w g 0 sz n F:=by
 obtain⟨h0,h3⟩:=h
 obtain⟨h1,h2⟩:=h0
 rcases h2 with h2|⟨g,cap,cur,rfl,hb,hg,hn,hm,hs,ht⟩
 .exact .inl h2
 .refine .inr ⟨g,cap,rfl,hb,hn,hm,(ff.mp hg).1,λi j hi hj=>?_⟩
  have hlt:i*sz+j<n*sz:=by have:=bh sz (show i+1<=n by omega);rw[cj]at this;omega
  have:=World.ownsRow.cellAt ⟨h1,.inr ⟨g,cap,cur,rfl,hb,hg,hn,hm,hs,ht⟩⟩ (i*sz+j) hlt
  rw[ck,this]
  exact zH n h3 i j hi hj
def Iy{base sz:Nat}{w w':World}{T:TypeId}{v:Value}{n:Nat}{xs:List Value}(h:w.ownsRow base T sz v n xs)(hg:w.grownBy w' v.ownBlock)(hb:base<=w.heap.size):Below base w w':=by
 refine(Below.refl _ _).grown hg hb ?_;intro k hk;rcases h.2 with⟨rfl,_⟩|⟨g,cap,cur,rfl,hb2,_⟩
 .cases hk
 .have:g=k:=eE hk;omega
def VL{P:Program}{T:TypeId}{sz bytes:Nat}(h:(P.info? T).map (λi=>(i.zero.map (λz=>z.cells.size),i.size,i.bytes))=some (some sz,sz,bytes)):
  ∃i z,P.info? T=some i/\i.zero=some z/\z.cells.size=sz/\i.size=sz/\i.bytes=bytes:=by
 cases hi:P.info? T with
 |none=>rw[hi]at h;cases h
 |some i=>
  rw[hi]at h
  simp only[Option.map_some,aT,cU]at h
  obtain⟨h1,h2,h3⟩:=h
  cases hz:i.zero with
  |none=>rw[hz]at h1;cases h1
  |some z=>
   rw[hz]at h1
   exact⟨i,z,rfl,hz,eE h1,h2,h3⟩
def abd{P:Program}{w:World}{o:Oper}{a:Act}{K:Act->World->Prop}{Q:Exit->Act->World->Prop}
  (s x:Operand) (t T:TypeId) (sz bytes:Nat) (base:Nat) (v:Value) (n:Nat) (F:Nat->List Value) (E:List Value)
  (hop:o.op=.call { callee:=.builtin .append,args:=#[s,x],argTypes:=#[t,t] })
  (h1:P.underlying t=some (.slice T)) (h2:(P.info? T).map (λi=>(i.zero.map (λz=>z.cells.size),i.size,i.bytes))=some (some sz,sz,bytes)) (hsz:0<sz)
  (hs:a.eval s=v) (hE:E.length=sz) (h1c:∀u∈E,u.oneCell'=true) (hx:a.eval x=.slice (some ⟨w.heap.size,0,none⟩) 1 1) (hown:mZ w base T sz v n F) (hn:(n+1)*bytes<=140737488355328) (hn2:n+1<=4294967296) (hbase:base<=w.heap.size)
  (h:∀v' w',mZ w' base T sz v' (n+1) (λj=>if j<n then F j else E)->Below base w w'->K (a.put o.dst v') w'):
  o.wp P a (w.alloc (.cells E.toArray T)) K Q:=by
 obtain⟨i,z,hi,hz,hzs,hsize,hbb⟩:=VL h2
 refine wp_append_own _ s x t hop base T i z sz bytes h1 hi hz hsize hbb hzs hsz v n _ hs (World.ownsRow.alloc hown.1 _) ⟨w.heap.size,0,none⟩ 1 1 E hx (by rw[hE,Nat.one_mul]) ?_ h1c (by unfold maxLen;omega) hn (by simp;omega) ?_
 .intro j u hj
  have e:(⟨w.heap.size,0,none⟩:Addr).add j=⟨w.heap.size,j,none⟩:=by unfold Addr.add;split<;>simp_all
  rw[e,cell_of_row _ _ _ _ _ (0,0) (heap_alloc_new w _)]
  simpa using hj
 .intro v' w' ho hgr _
  have hbl:Below base w w':=((Below.refl _ _).alloc hbase _).trans (Iy (World.ownsRow.alloc hown.1 _) hgr (by simp;omega))
  refine h v' w' ⟨?_,λi hi=>?_⟩ hbl
  .have e:(List.range n).flatMap F++E=(List.range (n+1)).flatMap (λj=>if j<n then F j else E):=by
    rw[fa,cL];congr 1
    .have hc:∀(m:Nat),m<=n->(List.range m).flatMap F=(List.range m).flatMap (λj=>if j<n then F j else E):=by
      intro m;induction m with
      |zero=>intro _;rfl
      |succ m ih=>
       intro hm
       rw[fa,cL,cL,ih jb]
       simp[show m<n by omega]
     exact hc n jp
    .simp
   rw[<-e];exact ho
  .by_cases h:i<n
   .simp only[h,gT];exact hown.2 i h
   .simp only[h,if_false];exact hE
def OQ{P:Program}{w:World}{ops:Array Oper}{rest:List Oper}{o:Oper}{a:Act}{Q:Exit->Act->World->Prop}
  (s x:Operand) (t T:TypeId) (sz bytes:Nat) (base:Nat) (v:Value) (n:Nat) (F:Nat->List Value) (E:List Value)
  (hg:o.guard=none) (hop:o.op=.call { callee:=.builtin .append,args:=#[s,x],argTypes:=#[t,t] })
  (h1:P.underlying t=some (.slice T)) (h2:(P.info? T).map (λi=>(i.zero.map (λz=>z.cells.size),i.size,i.bytes))=some (some sz,sz,bytes)) (hsz:0<sz)
  (hs:a.eval s=v) (hE:E.length=sz) (h1c:∀u∈E,u.oneCell'=true) (hx:a.eval x=.slice (some ⟨w.heap.size,0,none⟩) 1 1) (hown:mZ w base T sz v n F) (hn:(n+1)*bytes<=140737488355328) (hn2:n+1<=4294967296) (hbase:base<=w.heap.size)
  (h:∀v' w',mZ w' base T sz v' (n+1) (λj=>if j<n then F j else E)->Below base w w'->wpList P ops Q rest (a.put o.dst v') w'):
  wpList P ops Q (o::rest) a (w.alloc (.cells E.toArray T)):=
 wpList_plain hg λ_ hK=>abd s x t T sz bytes base v n F E hop h1 h2 hsz hs hE h1c hx hown hn hn2 hbase λv' w' ho hb=>hK _ _ (h v' w' ho hb)
def mZ.congr{w:World}{base:Nat}{T:TypeId}{sz:Nat}{v:Value}{n:Nat}{F G:Nat->List Value}(h:mZ w base T sz v n F)(hg:∀i,i<n->F i=G i):mZ w base T sz v n G:=by
 obtain⟨h1,h2⟩:=h;refine⟨?_,λi hi=>by rw[<-hg i hi];exact h2 i hi⟩;have hc:∀(m:Nat),m<=n->(List.range m).flatMap F=(List.range m).flatMap G:=by
  intro m;induction m with
  |zero=>intro _;rfl
  |succ m ih=>
   intro hm
   rw[fa,cL,cL,ih jb]
   simp[hg m jb]
 rw[<-hc n jp];exact h1
end Go.Proofs.Ins
namespace Go.Proofs.Ins
def rn(q:Rat):Bool:=decide (q.num<0)
def rs(q:Rat):ByteArray:=bn q.num.natAbs
def rd(q:Rat):ByteArray:=if q.den=1 then⟨#[]⟩else bn q.den
def xJ(n:Bool)(x:Nat):Int:=if n=true then-(x:Int)else(x:Int)
theorem oN(n:Bool)(x:Nat):(xJ n x).natAbs=x:=by grind[xJ]
theorem Yh(n:Bool):xJ n 0=0:=by grind[xJ]
theorem adx(n:Bool){x:Nat}(h:0<x):decide (xJ n x<0)=n:=by grind[xJ]
theorem ady(n m:Bool)(x y:Nat):xJ n x*xJ m y=xJ (n !=m) (x*y):=by unfold xJ;grind
theorem DL(i:Int):xJ (decide (i<0)) i.natAbs=i:=by grind[xJ]
def dn(d:ByteArray):Nat:=if nv d=0 then 1 else nv d
theorem Yi(q:Rat):dn (rd q)=q.den:=by
 unfold dn rd;by_cases h:q.den=1
 .rw[ab h,h];rfl
 .rw[ae h,gU,ae (by have:=q.den_pos;omega)]
def Me(n:Bool)(s d:ByteArray):Prop:=
 bn (nv s)=s/\bn (nv d)=d/\(nv s=0->n=false/\nv d=0)/\(nv d=0\/(nv d≠1/\Nat.gcd (nv s) (nv d)=1))
instance (n:Bool) (s d:ByteArray):Decidable (Me n s d):=by unfold Me;infer_instance
def rq(n:Bool)(s d:ByteArray):Rat:=if Me n s d then mkRat (xJ n (nv s)) (dn d)else 0
theorem BM(q:Rat):Me (rn q) (rs q) (rd q):=by
 unfold Me;have hd:=q.den_pos;have e:nv (rd q)=if q.den=1 then 0 else q.den:=by
  unfold rd;split
  .rfl
  .exact gU _
 refine⟨by unfold rs;rw[gU],?_,?_,?_⟩
 .unfold rd;split
  .rfl
  .rw[gU]
 .intro h;unfold rs at h;rw[gU]at h;have h0:q.num=0:=jb;have h1:q=0:=Rat.num_eq_zero.mp h0;subst h1;exact⟨rfl,rfl⟩
 .rw[e];by_cases h1:q.den=1
  .grind
  .rw[ae h1];refine .inr ⟨h1,?_⟩;unfold rs;rw[gU];exact q.reduced
theorem DN(q:Rat):rq (rn q) (rs q) (rd q)=q:=by grind[rq,BM,Yi,rs,rn,gU,DL,Rat.mkRat_self]
def adz{n:Bool}{s d:ByteArray}(h:Me n s d):(rq n s d).num=xJ n (nv s)/\(rq n s d).den=dn d:=by obtain⟨h1,h2,h3,h4⟩:=h;unfold rq;rw[ab ⟨h1,h2,h3,h4⟩];grind[dn,oN,Nat.gcd_one_left,Rat.num_mkRat,Rat.den_mkRat]
def qQ{n:Bool}{s d:ByteArray}(h:Me n s d):rn (rq n s d)=n/\rs (rq n s d)=s/\rd (rq n s d)=d:=by
 obtain⟨e1,e2⟩:=adz h;obtain⟨h1,h2,h3,h4⟩:=h;refine⟨?_,?_,?_⟩
 .grind[rn,Yh,adx]
 .grind[rs,oN]
 .unfold rd;rw[e2];unfold dn;rcases h4 with h4|⟨h5,h6⟩
  .rw[ab h4,ab rfl,<-h2,h4];rfl
  .by_cases h7:nv d=0
   .rw[ab h7,ab rfl,<-h2,h7];rfl
   grind
theorem VN{n:Bool}{s d:ByteArray}(h:¬Me n s d):rq n s d=0:=by grind[rq]
theorem abe{p q:Rat}(h1:rn p=rn q)(h2:rs p=rs q)(h3:rd p=rd q):p=q:=by grind[DN]
def fr(n:Bool)(x y:Nat):Rat:=mkRat (xJ n x) y
def VO(n:Bool)(y:Nat):fr n 0 y=0:=by simp_all[fr,Yh]
theorem abf{n:Bool}{x y:Nat}(hy:0<y):(fr n x y).num=xJ n (x/Nat.gcd x y)/\(fr n x y).den=y/Nat.gcd x y:=by
 unfold fr;have hg:y.gcd (xJ n x).natAbs=Nat.gcd x y:=by grind[oN]
 constructor
 .rw[Rat.num_mkRat,ae jb,hg];have hdv:(Nat.gcd x y)∣x:=Nat.gcd_dvd_left x y;unfold xJ;cases n
  .simp
  .simp only[gT];rw[Int.neg_ediv_of_dvd (by exact_mod_cast hdv),Int.natCast_ediv]
 grind[Rat.den_mkRat]
def Ui{n:Bool}{x y:Nat}(hx:0<x)(hy:0<y):rn (fr n x y)=n/\rs (fr n x y)=bn (x/Nat.gcd x y)/\rd (fr n x y)=if y/Nat.gcd x y=1 then⟨#[]⟩else bn (y/Nat.gcd x y):=by grind[Go.Proofs.Ins.abf,Nat.div_pos,Nat.gcd_le_left,Nat.gcd_pos_of_pos_left,Go.Proofs.Ins.rn,Go.Proofs.Ins.adx,Go.Proofs.Ins.rs,Go.Proofs.Ins.oN,Go.Proofs.Ins.rd]
def nm(q:Rat):Nat:=q.num.natAbs
theorem DR(q:Rat):nv (rs q)=nm q:=gU _
theorem Iz(q:Rat):fr (rn q) (nm q) q.den=q:=by simp_all[fr,rn,nm,DL]
theorem OT(q:Rat):xJ (rn q) (nm q)=q.num:=DL _
def pF{q:Rat}:nm q=0↔q=0:=by grind[nm,Rat.num_eq_zero]
def fJ{q:Rat}:rs q=⟨#[]⟩↔q=0:=by simp_all[rs,DF]
def VP{q:Rat}:rn q=true↔q<0:=by simp_all[rn,Rat.lt_iff]
def OU{q:Rat}:rn q=false↔0<=q:=by simp_all[rn]
def abg(a b:Rat):a*b=fr (rn a !=rn b) (nm a*nm b) (a.den*b.den):=by grind[fr,ady,OT,Rat.mul_def']
def abh{a b:Rat}(hb:b≠0):a/b=fr (rn a !=rn b) (nm a*b.den) (a.den*nm b):=by
 have h1:0<nm b:=eo λh=>hb (pF.mp h);have h2:fr (rn a !=rn b) (nm a*b.den) (a.den*nm b)*b=a:=by
  rw[abg];have e1:=Iz a;have hd:=a.den_pos;have hbd:=b.den_pos;generalize hz:fr (rn a !=rn b) (nm a*b.den) (a.den*nm b)=z;have hz0:z=mkRat (xJ (rn a !=rn b) (nm a*b.den)) (a.den*nm b):=hz.symm;rw[<-abg,hz0,<-Iz b];unfold fr;rw[Rat.mkRat_mul_mkRat,ady];rw[show nm (mkRat (xJ (rn b) (nm b)) b.den)=nm b by grind[Iz,fr]];rw[show rn (mkRat (xJ (rn b) (nm b)) b.den)=rn b by grind[Iz,fr]];rw[show(mkRat (xJ (rn b) (nm b)) b.den).den=b.den by grind[Iz,fr]];have e3:((rn a !=rn b) !=rn b)=rn a:=by simp
  rw[e3];have e4:xJ (rn a) (nm a*b.den*nm b)=xJ (rn a) (nm a)*((b.den*nm b:Nat):Int):=by grind[xJ]
  rw[e4,OT];rw[show a.den*nm b*b.den=a.den*(b.den*nm b) by grind];rw[Rat.mkRat_mul_right (by have:=bX hbd h1;omega),Rat.mkRat_self]
 grind
def VQ(a b:Rat):a+b=mkRat (xJ (rn a) (nm a*b.den)+xJ (rn b) (nm b*a.den)) (a.den*b.den):=by rw[Rat.add_def'];grind[OT,xJ]
def BN(n:Bool)(x y:Nat):xJ n x+xJ n y=xJ n (x+y):=by grind[xJ]
def pG{n m:Bool}(h:n≠m){x y:Nat}(hle:y<=x):xJ n x+xJ m y=xJ n (x-y):=by grind[xJ]
def Yj{a b:Rat}(h:a.den=b.den):a+b=mkRat (xJ (rn a) (nm a)+xJ (rn b) (nm b)) a.den:=by
 have hd:=a.den_pos;rw[VQ,<-h];have e:xJ (rn a) (nm a*a.den)+xJ (rn b) (nm b*a.den)=(xJ (rn a) (nm a)+xJ (rn b) (nm b))*(a.den:Int):=by grind[xJ]
 rw[e,Rat.mkRat_mul_right jb]
def sg(q:Rat):Int:=if q=0 then 0 else if q<0 then-1 else 1
def mW(a b:Rat):Int:=sg (a-b)
def adA{q:Rat}(h:nm q=0):sg q=0:=by unfold sg;rw[ab (pF.mp h)]
def aie{q:Rat}(h:rn q=true):sg q=-1:=by have h1:=VP.mp h;grind[sg]
def aif{q:Rat}(h:rn q=false)(h2:nm q≠0):sg q=1:=by have h1:=OU.mp h;unfold sg;rw[ae (λe=>h2 (pF.mpr e)),ae kd]
theorem IB{a b:Rat}(h:a<b):mW a b=-1:=by grind[mW,sg]
theorem IC{a b:Rat}(h:b<a):mW a b=1:=by grind[mW,sg]
theorem NP(a:Rat):mW a a=0:=by unfold mW;rw[Rat.sub_self];rfl
def rZ{a b:Rat}:mW a b<=0↔a<=b:=by grind[IB,NP,IC]
def su{a b:Rat}:mW a b<0↔a<b:=by grind[IC,NP,IB]
def Sm(k:Nat)(q:Rat):Prop:=nm q<256^k/\q.den<256^k
def Sm.mono{k l:Nat}{q:Rat}(h:Sm k q)(hkl:k<=l):Sm l q:=
 ⟨aE h.1 (bq jb hkl),aE h.2 (bq jb hkl)⟩
theorem Sm.rs{k:Nat}{q:Rat}(h:Sm k q):(rs q).size<=k:=oM h.1
theorem Sm.rd{k:Nat}{q:Rat}(h:Sm k q):(rd q).size<=k:=by
 unfold Ins.rd;split
 .exact aM _
 .exact oM h.2
theorem am7(k:Nat)(hk:0<k):Sm k 0:=⟨dp jb,by show 1<256^k;grind⟩
def aw0{n:Bool}{s d:ByteArray}{k:Nat}(hs:s.size<=k)(hd:d.size<=k)(hk:0<k):Sm k (rq n s d):=by
 by_cases h:Me n s d
 .obtain⟨e1,e2⟩:=adz h;constructor
  .grind[nm,oN,Nat.lt_of_lt_of_le,Yc,Nat.pow_le_pow_right]
  grind[dn,Nat.lt_of_lt_of_le,Yc,Nat.pow_le_pow_right]
 grind[VN,am7]
def aq5{n:Bool}{x y k:Nat}(hx:x<256^k)(hy:y<256^k)(hy0:0<y):Sm k (fr n x y):=by
 obtain⟨e1,e2⟩:=abf (n:=n) (x:=x) hy0;constructor
 .unfold nm;rw[e1,oN];exact cW (fj _ _) hx
 .rw[e2];exact cW (fj _ _) hy
def kZ{x y k l:Nat}(hx:x<256^k)(hy:y<256^l):x*y<256^(k+l):=by
 rw[dT];have h0:0<256^k:=dp jb;rcases cY y with rfl|h
 .simp_all
 .exact aE (et hx h) (cf _ (it hy))
def Sm.div{k l:Nat}{a b:Rat}(h:Sm k a)(h2:Sm l b)(hb:b≠0):Sm (k+l) (a/b):=by rw[abh hb];exact aq5 (kZ h.1 h2.2) (kZ h.2 h2.1) (bX a.den_pos (eo λh=>hb (pF.mp h)))
def aii(i:Int)(y:Nat):mkRat i y=fr (decide (i<0)) i.natAbs y:=by unfold fr;rw[DL]
theorem Sm.add{k l:Nat}{a b:Rat}(h:Sm k a)(h2:Sm l b):Sm (k+l+1) (a+b):=by rw[VQ,aii];have h3:=kZ h.1 h2.2;have h4:=kZ h2.1 h.2;have h5:=kZ h.2 h2.2;rw[dC l k]at h4;have e:(256:Nat)^(k+l+1)=256*256^(k+l):=jb;refine aq5 ?_ jb (bX a.den_pos b.den_pos);grind[oN]
def Sm.neg{k:Nat}{a:Rat}(h:Sm k a):Sm k (-a):=by
 refine⟨?_,h.2⟩;have:nm (-a)=nm a:=by grind[nm,Rat.neg_num]
 rw[this];exact h.1
def abj{a:Rat}(h:nm a≠0):rn (-a)= !(rn a):=by grind[rn,Rat.neg_num,nm]
theorem OV(a:Rat):rs (-a)=rs a:=by grind[rs,Rat.neg_num]
theorem OW(a:Rat):rd (-a)=rd a:=rfl
def Sm.sub{k l:Nat}{a b:Rat}(h:Sm k a)(h2:Sm l b):Sm (k+l+1) (a-b):=by rw[fR];exact h.add h2.neg
end Go.Proofs.Ins
namespace Go.Proofs.Ins
open Go.RowKit
end Go.Proofs.Ins
