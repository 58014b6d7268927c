/- Part 5 of the proof of squaresGram_holds. No condition. -/
import Derived.Deep.CutBlock
import Derived.Deep.DeepCutAuto
import Derived.Test.YtnbfnoebjjdmnaaGreatGm1
set_option linter.unusedSimpArgs false
set_option linter.unusedVariables false
set_option maxRecDepth 100000
set_option maxHeartbeats 2000000
namespace Go.Proofs.YtnbfnoebjjdmnaaGreat
open Go.RowKit
theorem CF{l:List Nat}{k:Nat}(h:k<l.length):val (l.drop k)=l.getD k 0+BB*val (l.drop (k+1)):=by
 rw [List.drop_eq_getElem_cons h]
 simp [val,h]
theorem HK{l:List Nat}{k x:Nat}:(l.set k x).drop (k+1)=l.drop (k+1):=by
 rw [List.drop_set];simp
theorem Ic{r x:Nat}(hr:r<4294967296)(hx:x<4294967296):bits .or .u64 ((r:Int)*4294967296) (x:Int)=(r:Int)*4294967296+x:=by
 have h:=LX (q:=x) (x:=r) hx hr
 have h2:bits .or .u64 ((r:Int)*4294967296) (x:Int)=bits .or .u64 (x:Int) ((r:Int)*4294967296):=by
  show IntKind.u64.wrap ((BitVec.ofInt 64 ((r:Int)*4294967296) ||| BitVec.ofInt 64 (x:Int)).toNat:Int)=IntKind.u64.wrap ((BitVec.ofInt 64 (x:Int) ||| BitVec.ofInt 64 ((r:Int)*4294967296)).toNat:Int)
  rw [BitVec.or_comm]
 rw [h2,h]
 omega
def DsRel(w wr:World)(la q:List Nat)(d n k r:Nat):Prop:=
 q.length=n/\Bn q/\Blk wr w.heap.size 108 (wv q)/\val (la.drop k)=val (q.drop k)*d+r/\Ext w wr
theorem DsRel.step{w wr:World}{la q:List Nat}{d n k r x:Nat}(h:DsRel w wr la q d n (k+1) r)(hk:k<n)(hn:la.length=n)(hx:la.getD k 0=x)(hd:0<d)(hr:r<d)(hd':d<4294967296)(hxB:x<4294967296){u:Int}(hu:u=((r*4294967296+x)/d:Nat)) :
  DsRel w (wr.setCell ⟨w.heap.size,k,none⟩ (.int .u32 u)) la (q.set k ((r*4294967296+x)/d)) d n k ((r*4294967296+x)%d):=by
 obtain ⟨h1,h2,h3,h4,h5⟩:=h
 have hb:(r*4294967296+x)/d<BB:=by
  rw [Bb]
  refine Nat.div_lt_of_lt_mul ?_
  have:(r+1)*4294967296<=d*4294967296:=Nat.mul_le_mul_right _ hr
  omega
 refine ⟨by simpa using h1,BX h2 k hb,by rw [hu,<-EQ];exact h3.set k _,?_,h5.set (Nat.le_refl _) _⟩
 rw [CF (l:=la) (k:=k) (by omega),CF (l:=q.set k _) (k:=k) (by rw [List.length_set];omega),HK,BC (by omega),hx,h4,<-Bb]
 have e:=Nat.div_add_mod (r*BB+x) d
 rw [Nat.add_mul,Nat.mul_add,Nat.mul_assoc BB]
 have e2:d*((r*BB+x)/d)=(r*BB+x)/d*d:=Nat.mul_comm _ _
 have e3:BB*r=r*BB:=Nat.mul_comm _ _
 omega
theorem SQ{r x d:Nat}(hr:r<d)(hx:x<4294967296)(hd:d<4294967296) :
  ((r:Int)*4294967296+x)/d%4294967296=((r*4294967296+x)/d:Nat)/\((r:Int)*4294967296+x)%d=((r*4294967296+x)%d:Nat):=by
 have e:(r:Int)*4294967296+x=((r*4294967296+x:Nat):Int):=by omega
 rw [e,<-Int.natCast_ediv,<-Int.natCast_emod]
 have hb:(r*4294967296+x)/d<4294967296:=by
  refine Nat.div_lt_of_lt_mul ?_
  have:(r+1)*4294967296<=d*4294967296:=Nat.mul_le_mul_right _ hr
  omega
 generalize (r*4294967296+x)/d=q at *
 exact ⟨by omega,rfl⟩
theorem Ld(va:Value)(la:List Nat)(d:Nat)(w:World)(ha:Words w va la)(hn:la.length<=4398046511104)(hd0:0<d)(hdB:d<4294967296) :
  Calls Tryz.prog 135 #[va,.int .u64 d] w λe w'=>∃v',e = .returned (.tuple #[v',.int .u64 (val la%d:Nat)])/\Words w' v' (Am (val la/d))/\Ext w w':=by
 obtain ⟨A,c,rfl,hc,hm',hx⟩:=ha.open_
 have hsa:=Ac ha.small
 clear ha
 have hA:=Ac hx
 clear hx
 obtain ⟨n,hn1⟩:∃n,n=la.length:=⟨_,rfl⟩
 rw [<-hn1] at hc hn ⊢
 replace hn1:=Ac hn1
 have hmk:=λW=>By n (by omega) .i64 .i64 W
 go_enter Tryz.func135,Tryz.ntmps135
 go_wp2
 go_loopw [7,8] (λt i wr=>∃(k r:Nat) (q:List Nat),k<=n/\i = .int .i64 ((k:Int)-1)/\t = .int .u64 r/\r<d/\Hid (DsRel w wr la q d n k r)) (λ_ i _=>(intOf i+1).toNat)
 case atStart => exact ⟨n, 0, List.replicate n 0, Nat.le_refl _, rfl, rfl, hd0, by simp, Bs _, Blk.new _ _ _, by
  have h1:la.drop n=[]:=List.drop_eq_nil_of_le (by rw [<-hn1.out];omega)
  rw [h1];simp [val],(Ext.refl _).alloc _⟩
 case round=>
  obtain ⟨k,r,q,hk,rfl,rfl,hr,hR⟩:=hrel
  by_cases hk0:k=0
  .subst hk0
   have hW:Hid (Words wr (.slice (some ⟨w.heap.size,0,none⟩) n n) q):=by
    have:=Bu (c:=n) hR.out.2.2.1 hR.out.2.1 (by rw [hR.out.1];omega) (by omega)
    rw [hR.out.1] at this
    exact this
   have hfin:Hid (val la/d=val q/\val la%d=r):=by
    have h1:=hR.out.2.2.2.1
    simp only [List.drop_zero] at h1
    rw [h1]
    constructor
    .rw [Nat.mul_comm,Nat.mul_add_div hd0,Nat.div_eq_of_lt hr,Nat.add_zero]
    .rw [Nat.mul_comm,Nat.mul_add_mod,Nat.mod_eq_of_lt hr]
   go_wp2_with (go_at_call 116;refine (Ck _ _ _ hW.out).mono ?_;rintro e w' ⟨v',rfl,hv',hE⟩)
   go_ret2
   refine ⟨v',by rw [hfin.out.2];rfl,?_,hR.out.2.2.2.2.trans hE⟩
   rw [AM hR.out.2.1,<-hfin.out.1] at hv'
   exact hv'
  .obtain ⟨k, rfl⟩:∃q, k=q+1:=⟨k-1, by omega⟩
   obtain ⟨b,o,rfl,hb,hcell⟩:=hA.out (by rw [<-hn1.out];omega)
   replace hcell:=(hR.out.2.2.2.2.cell (p:=⟨b,o+k,none⟩) hb).trans (hcell k (by rw [<-hn1.out];omega))
   have hxB:=AD hsa.out k
   have hst:wr.cell? ⟨w.heap.size,k,none⟩=some (.int .u32 (q.getD k 0:Nat)):=by rw [hR.out.2.2.1.cell,Ch (by rw [hR.out.1];omega)]
   have hfz:=hR.out.2.2.1.frozen k
   generalize hx:la.getD k 0=x at *
   replace hx:=Ac hx
   unfold BB at hxB
   have hq1:((k+1:Nat):Int)-1=k:=by omega
   rw [hq1]
   have hor:=Ic (r:=r) (x:=x) (by omega) hxB
   have hfin:Hid (((r:Int)*4294967296+x)/d%4294967296=((r*4294967296+x)/d:Nat)/\((r:Int)*4294967296+x)%d=((r*4294967296+x)%d:Nat)):=SQ hr hxB hdB
   go_wp2
   refine ⟨⟨k,(r*4294967296+x)%d,_,by omega,rfl,by rw [hfin.out.2],Nat.mod_lt _ hd0,hR.out.step hk hn1.out.symm hx.out hd0 hr hdB hxB hfin.out.1⟩,by simp [intOf]⟩
def ShlRel(w wr:World)(la r:List Nat)(s n k cc:Nat):Prop:=
 r.length=n+1/\Bn r/\Blk wr w.heap.size 108 (wv r)/\val (r.take k)+BB^k*cc=2^s*val (la.take k)/\Ext w wr
theorem QE{s:Nat}(hs:s<32):2^s<=2147483648:=by
 have:2^s<=2^31:=Nat.pow_le_pow_right (by omega) (by omega)
 simpa using this
theorem A0g{x s cc:Nat}(hx:x<4294967296)(hs:s<32)(hc:cc<2^s):bits .or .u64 (IntKind.u64.wrap ((x:Int)*2^s)) (cc:Int)=((x*2^s+cc:Nat):Int):=by
 have hp:=QE hs
 have hlt:x*2^s<=4294967296*2147483648:=Nat.mul_le_mul (by omega) hp
 have e1:(x:Int)*2^s=((x*2^s:Nat):Int):=by simp [Int.natCast_mul,Int.natCast_pow]
 have e2:IntKind.u64.wrap ((x:Int)*2^s)=((x*2^s:Nat):Int):=by rw [e1,IntKind.wrap_u64];omega
 have h2:(x*2^s) ||| cc=x*2^s+cc:=by
  have:=Nat.shiftLeft_add_eq_or_of_lt hc x
  rw [Nat.shiftLeft_eq] at this
  omega
 rw [e2,u64_or_nat _ _ (by omega) (by omega),h2]
theorem ShlRel.step{w wr:World}{la r:List Nat}{s n k cc x:Nat}(h:ShlRel w wr la r s n k cc)(hk:k<n)(hx:la.getD k 0=x)(hxB:x<4294967296)(hs:s<32)(hc:cc<2^s){u z:Int}(hu:u=((x*2^s+cc)%BB:Nat))(hz:z=((x*2^s+cc)/BB:Nat)) :
  ∃(k1 c1:Nat) (r1:List Nat),k1<=n/\Value.int .i64 ((k:Int)+1) = .int .i64 k1/\Value.int .u64 z = .int .u64 c1/\c1<4294967296/\Hid (c1<2^s)/\Hid (ShlRel w (wr.setCell ⟨w.heap.size,k,none⟩ (.int .u32 u)) la r1 s n k1 c1):=by
 obtain ⟨h1,h2,h3,h4,h5⟩:=h
 have hp:=QE hs
 have hq:(x*2^s+cc)/BB<2^s:=by
  refine Nat.div_lt_of_lt_mul ?_
  rw [Bb]
  have:(x+1)*2^s<=4294967296*2^s:=Nat.mul_le_mul_right _ hxB
  rw [Nat.add_mul,Nat.one_mul] at this
  omega
 refine ⟨k+1,(x*2^s+cc)/BB,r.set k ((x*2^s+cc)%BB),hk,by simp,by rw [hz],by omega,hq,by simpa using h1,BX h2 k (Nat.mod_lt _ BP),by rw [hu,<-EQ];exact h3.set k _,?_,h5.set (Nat.le_refl _) _⟩
 rw [AK,Cb,BC (by omega),AK la,hx,Nat.mul_add]
 have e:=Nat.mod_add_div (x*2^s+cc) BB
 have e2:BB^k*((x*2^s+cc)%BB)+BB^(k+1)*((x*2^s+cc)/BB)=BB^k*(x*2^s+cc):=by
  rw [Nat.pow_succ,Nat.mul_assoc,<-Nat.mul_add,e]
 have e3:BB^k*(x*2^s+cc)=2^s*(BB^k*x)+BB^k*cc:=by
  rw [Nat.mul_add,<-Nat.mul_assoc,Nat.mul_comm (BB^k*x)]
 omega
theorem ShlRel.close{w wr:World}{la r:List Nat}{s n cc:Nat}(h:ShlRel w wr la r s n n cc)(hn:la.length=n)(hc:cc<4294967296) :
  (r.set n cc).length=n+1/\Bn (r.set n cc)/\Blk (wr.setCell ⟨w.heap.size,n,none⟩ (.int .u32 (cc:Int))) w.heap.size 108 (wv (r.set n cc))/\val (r.set n cc)=2^s*val la/\Ext w (wr.setCell ⟨w.heap.size,n,none⟩ (.int .u32 (cc:Int))):=by
 obtain ⟨h1,h2,h3,h4,h5⟩:=h
 have ea:la.take n=la:=List.take_of_length_le (by omega)
 rw [ea] at h4
 have er:(r.set n cc).take (n+1)=r.set n cc:=List.take_of_length_le (by simp;omega)
 refine ⟨by simpa using h1,BX h2 n (by rw [Bb];exact hc),by rw [<-EQ];exact h3.set n _,?_,h5.set (Nat.le_refl _) _⟩
 rw [<-er,AK,Cb,BC (by omega),h4]
theorem Io(va:Value)(la:List Nat)(s:Nat)(w:World)(ha:Words w va la)(hn:la.length<=4398046511104)(hs:s<32) :
  Calls Tryz.prog 137 #[va,.int .i64 s] w λe w'=>∃(g:Nat) (r:List Nat),e = .returned (.slice (some ⟨g,0,none⟩) (la.length+1) (la.length+1))/\r.length=la.length+1/\Bn r/\w.heap.size<=g/\Blk w' g 108 (wv r)/\val r=2^s*val la/\Ext w w':=by
 obtain ⟨A,c,rfl,hc,hm',hx⟩:=ha.open_
 have hsa:=Ac ha.small
 clear ha
 have hA:=Ac hx
 clear hx
 obtain ⟨n,hn1⟩:∃n,n=la.length:=⟨_,rfl⟩
 rw [<-hn1] at hc hn ⊢
 replace hn1:=Ac hn1
 have hmk:=λW=>By (n+1) (by omega) .i64 .i64 W
 simp only [Int.natCast_add,Int.natCast_one] at hmk
 go_enter Tryz.func137,Tryz.ntmps137
 go_wp2
 go_loopw [6,15] (λcy i wr=>∃(k cc:Nat) (r:List Nat),k<=n/\i = .int .i64 k/\cy = .int .u64 cc/\cc<4294967296/\Hid (cc<2^s)/\Hid (ShlRel w wr la r s n k cc)) (λ_ i _=>n-(intOf i).toNat)
 case atStart=>exact ⟨0,0,List.replicate (n+1) 0,Nat.zero_le _,rfl,rfl,by omega,Nat.two_pow_pos s,⟨by simp,Bs _,Blk.new _ _ _,by simp [val],(Ext.refl _).alloc _⟩⟩
 case round=>
  obtain ⟨k,cc,r,hk,rfl,rfl,hcB,hcc,hR⟩:=hrel
  by_cases hlt:k<n
  .obtain ⟨b, o, rfl, hb, hcell⟩:=hA.out (by rw [<-hn1.out]; omega)
   replace hcell:=(hR.out.2.2.2.2.cell (p:=⟨b,o+k,none⟩) hb).trans (hcell k (by rw [<-hn1.out];omega))
   have hxB:=AD hsa.out k
   have hst:wr.cell? ⟨w.heap.size,k,none⟩=some (.int .u32 (r.getD k 0:Nat)):=by rw [hR.out.2.2.1.cell,Ch (by rw [hR.out.1];omega)]
   have hfz:=hR.out.2.2.1.frozen k
   generalize hx:la.getD k 0=x at *
   replace hx:=Ac hx
   unfold BB at hxB
   have hnum:=A0g hxB hs hcc.out
   replace hnum:=Ac hnum
   go_wp2
   rw [hnum.out]
   exact ⟨hR.out.step hlt hx.out hxB hs hcc.out (by rw [Bb];omega) (by rw [Bb];omega),by simp [intOf];omega⟩
  .obtain rfl:k=n:=by omega
   have hst:wr.cell? ⟨w.heap.size,k,none⟩=some (.int .u32 (r.getD k 0:Nat)):=by rw [hR.out.2.2.1.cell,Ch (by rw [hR.out.1];omega)]
   have hfz:=hR.out.2.2.1.frozen k
   have hcl:=Ac (hR.out.close hn1.out.symm hcB)
   go_wp2
   go_ret
   exact ⟨w.heap.size,_,rfl,hcl.out.1,hcl.out.2.1,Nat.le_refl _,hcl.out.2.2.1,hcl.out.2.2.2.1,hcl.out.2.2.2.2⟩
theorem A0Z{t s:Nat}(ht:t<18446744073709551616)(hs:s<32):bits .and .u64 (t:Int) ((2^s-1:Nat):Int)=((t%2^s:Nat):Int):=by
 have hp:=QE hs
 rw [u64_and_nat _ _ ht (by omega),Nat.and_two_pow_sub_one_eq_mod]
theorem A0f{r x s:Nat}(hr:r<2^s)(hx:x<4294967296)(hs:s<32) :
  ((r:Int)*4294967296+x)/2^s%4294967296=((r*4294967296+x)/2^s:Nat) /\
  bits .and .u64 ((r:Int)*4294967296+x) (IntKind.u64.wrap (IntKind.u64.wrap (2^s)-1))=((r*4294967296+x)%2^s:Nat):=by
 have hp:=QE hs
 have h1:=Nat.two_pow_pos s
 have e:((2:Int)^s)=((2^s:Nat):Int):=by simp [Int.natCast_pow]
 constructor
 .rw [e];exact (SQ hr hx (by omega)).1
 .have e1:IntKind.u64.wrap (IntKind.u64.wrap (2^s)-1)=((2^s-1:Nat):Int):=by
   rw [e]
   simp only [IntKind.wrap_u64]
   omega
  have e2:(r:Int)*4294967296+x=((r*4294967296+x:Nat):Int):=by omega
  rw [e1,e2,A0Z (by omega) hs]
theorem LF(va:Value)(la:List Nat)(s:Nat)(w:World)(ha:Words w va la)(hn:la.length<=4398046511104)(hs:s<32) :
  Calls Tryz.prog 139 #[va,.int .i64 s] w λe w'=>∃v',e = .returned v'/\Words w' v' (Am (val la/2^s))/\Ext w w':=by
 obtain ⟨A,c,rfl,hc,hm',hx⟩:=ha.open_
 have hsa:=Ac ha.small
 clear ha
 have hA:=Ac hx
 clear hx
 obtain ⟨n,hn1⟩:∃n,n=la.length:=⟨_,rfl⟩
 rw [<-hn1] at hc hn ⊢
 replace hn1:=Ac hn1
 have hd0:0<2^s:=Nat.two_pow_pos s
 have hdB:2^s<4294967296:=by have:=QE hs;omega
 replace hd0:=Ac hd0
 replace hdB:=Ac hdB
 have hmk:=λW=>By n (by omega) .i64 .i64 W
 go_enter Tryz.func139,Tryz.ntmps139
 go_wp2
 go_loopw [6,7] (λt i wr=>∃(k r:Nat) (q:List Nat),k<=n/\i = .int .i64 ((k:Int)-1)/\t = .int .u64 r/\Hid (r<2^s)/\Hid (DsRel w wr la q (2^s) n k r)) (λ_ i _=>(intOf i+1).toNat)
 case atStart => exact ⟨n, 0, List.replicate n 0, Nat.le_refl _, rfl, rfl, hd0.out, by simp, Bs _, Blk.new _ _ _, by
  have h1:la.drop n=[]:=List.drop_eq_nil_of_le (by rw [<-hn1.out];omega)
  rw [h1];simp [val],(Ext.refl _).alloc _⟩
 case round=>
  obtain ⟨k,r,q,hk,rfl,rfl,hr,hR⟩:=hrel
  by_cases hk0:k=0
  .subst hk0
   have hW:Hid (Words wr (.slice (some ⟨w.heap.size,0,none⟩) n n) q):=by
    have:=Bu (c:=n) hR.out.2.2.1 hR.out.2.1 (by rw [hR.out.1];omega) (by omega)
    rw [hR.out.1] at this
    exact this
   have hfin:Hid (val la/2^s=val q):=by
    have h1:=hR.out.2.2.2.1
    simp only [List.drop_zero] at h1
    show val la/2^s=val q
    rw [h1,Nat.mul_comm,Nat.mul_add_div hd0.out,Nat.div_eq_of_lt hr.out,Nat.add_zero]
   go_wp2_with (go_at_call 116;refine (Ck _ _ _ hW.out).mono ?_;rintro e w' ⟨v',rfl,hv',hE⟩)
   go_ret
   refine ⟨v',rfl,?_,hR.out.2.2.2.2.trans hE⟩
   rw [AM hR.out.2.1,<-hfin.out] at hv'
   exact hv'
  .obtain ⟨k, rfl⟩:∃q, k=q+1:=⟨k-1, by omega⟩
   obtain ⟨b,o,rfl,hb,hcell⟩:=hA.out (by rw [<-hn1.out];omega)
   replace hcell:=(hR.out.2.2.2.2.cell (p:=⟨b,o+k,none⟩) hb).trans (hcell k (by rw [<-hn1.out];omega))
   have hxB:=AD hsa.out k
   have hst:wr.cell? ⟨w.heap.size,k,none⟩=some (.int .u32 (q.getD k 0:Nat)):=by rw [hR.out.2.2.1.cell,Ch (by rw [hR.out.1];omega)]
   have hfz:=hR.out.2.2.1.frozen k
   generalize hx:la.getD k 0=x at *
   replace hx:=Ac hx
   unfold BB at hxB
   have hq1:((k+1:Nat):Int)-1=k:=by omega
   rw [hq1]
   have hrB:r<4294967296:=Nat.lt_trans hr.out hdB.out
   have hor:=Ic (r:=r) (x:=x) hrB hxB
   have hfin:=Ac (A0f hr.out hxB hs)
   go_wp2
   refine ⟨⟨k,(r*4294967296+x)%2^s,_,by omega,rfl,by rw [hfin.out.2],Nat.mod_lt _ hd0.out,hR.out.step hk hn1.out.symm hx.out hd0.out hr.out hdB.out hxB hfin.out.1⟩,by simp [intOf]⟩
structure KN(u v p vl ul v1 v2 u0 u1 u2:Nat):Prop where
 hv:v=vl+p*(v2+BB*v1)
 hu:u=ul+p*(u2+BB*(u1+BB*u0))
 vl_lt:vl<p
 ul_lt:ul<p
 v2_lt:v2<BB
 v1_lt:v1<BB
 u0_lt:u0<BB
 u1_lt:u1<BB
 u2_lt:u2<BB
 v1_pos:0<v1
 lt:u<BB*v
section
variable {u v p vl ul v1 v2 u0 u1 u2:Nat}
theorem KN.p_pos(h:KN u v p vl ul v1 v2 u0 u1 u2):0<p:=Nat.lt_of_le_of_lt (Nat.zero_le _) h.vl_lt
theorem KN.u0_le(h:KN u v p vl ul v1 v2 u0 u1 u2):u0<=v1:=by
 have hp:=h.p_pos
 have h1:v+1<=p*(v2+1+BB*v1):=by
  rw [h.hv,show v2+1+BB*v1=(v2+BB*v1)+1 by omega,Nat.mul_add p (v2+BB*v1) 1]
  have:=h.vl_lt
  omega
 have h2:v2+1+BB*v1<=BB*(v1+1):=by
  rw [Nat.mul_add]
  have:=h.v2_lt
  omega
 have h3:v<p*(BB*(v1+1)):=Nat.lt_of_lt_of_le h1 (Nat.mul_le_mul_left p h2)
 have h4:u<BB*(p*(BB*(v1+1))):=Nat.lt_trans h.lt (Nat.mul_lt_mul_of_pos_left h3 BP)
 have h5:p*(BB*(BB*u0))<=u:=by
  rw [h.hu]
  have:BB*(BB*u0)<=u2+BB*(u1+BB*u0):=by
   rw [Nat.mul_add];omega
  have:=Nat.mul_le_mul_left p this
  omega
 have h6:BB*(p*(BB*(v1+1)))=p*(BB*(BB*(v1+1))):=by rw [Nat.mul_left_comm]
 rw [h6] at h4
 have h7:=Nat.lt_of_le_of_lt h5 h4
 have h8:=Nat.lt_of_mul_lt_mul_left h7
 have h9:=Nat.lt_of_mul_lt_mul_left h8
 have h10:=Nat.lt_of_mul_lt_mul_left h9
 omega
theorem KN.v_ge(h:KN u v p vl ul v1 v2 u0 u1 u2):p*BB<=v:=by
 rw [h.hv]
 have:BB*1<=BB*v1:=Nat.mul_le_mul_left _ h.v1_pos
 have h2:p*BB<=p*(v2+BB*v1):=Nat.mul_le_mul_left p (by omega)
 omega
theorem KN.v_pos(h:KN u v p vl ul v1 v2 u0 u1 u2):0<v:=Nat.lt_of_lt_of_le (Nat.mul_pos h.p_pos BP) h.v_ge
theorem KN.q_lt(h:KN u v p vl ul v1 v2 u0 u1 u2):u/v<BB:=Nat.div_lt_of_lt_mul (by rw [Nat.mul_comm];exact h.lt)
theorem KN.qV(h:KN u v p vl ul v1 v2 u0 u1 u2):u/v*(v2+BB*v1)<=u2+BB*(u1+BB*u0):=by
 have h1:u/v*v<=u:=Nat.div_mul_le_self u v
 have h2:p*(u/v*(v2+BB*v1))<=u/v*v:=by
  rw [Nat.mul_left_comm]
  refine Nat.mul_le_mul_left _ ?_
  have:=h.hv
  omega
 have h3:u<p*(u2+BB*(u1+BB*u0)+1):=by
  have:=h.hu
  have:=h.ul_lt
  rw [Nat.mul_add p _ 1]
  omega
 have h4:p*(u/v*(v2+BB*v1))<p*(u2+BB*(u1+BB*u0)+1):=by omega
 have:=Nat.lt_of_mul_lt_mul_left h4
 omega
theorem KN.qv1(h:KN u v p vl ul v1 v2 u0 u1 u2):u/v*v1<=u1+BB*u0:=by
 have h1:=h.qV
 have h2:BB*(u/v*v1)<=u/v*(v2+BB*v1):=by
  rw [Nat.mul_add (u/v),Nat.mul_left_comm]
  omega
 have h3:BB*(u/v*v1)<BB*(u1+BB*u0+1):=by
  have:=h.u2_lt
  rw [Nat.mul_add BB _ 1]
  omega
 have:=Nat.lt_of_mul_lt_mul_left h3
 omega
theorem KN.start(h:KN u v p vl ul v1 v2 u0 u1 u2):u/v<=(u1+BB*u0)/v1:=(Nat.le_div_iff_mul_le h.v1_pos).2 h.qv1
theorem KN.down(h:KN u v p vl ul v1 v2 u0 u1 u2){q r:Nat}(he:q*v1+r=u1+BB*u0)(hq:u/v<=q)(ht:BB<=q\/r*BB+u2<q*v2):1<=q/\u/v<=q-1/\(q-1)*v1+(r+v1)=u1+BB*u0:=by
 have h0:1<=q:=by
  rcases ht with ht | ht
  .have:=BP;omega
  .rcases Nat.eq_zero_or_pos q with h0 | h0
   .subst h0;simp at ht
   .exact h0
 refine ⟨h0,?_,?_⟩
 .rcases ht with ht | ht
  .have:=h.q_lt;omega
  .have hlt:u/v<q:=by
    have h1:=h.qV
    have h2:u2+BB*(u1+BB*u0)<q*(v2+BB*v1):=by
     rw [<-he,Nat.mul_add q,Nat.mul_left_comm q,Nat.mul_add BB]
     have:BB*r=r*BB:=Nat.mul_comm _ _
     omega
    exact Nat.lt_of_mul_lt_mul_right (Nat.lt_of_le_of_lt h1 h2)
   omega
 .have:(q-1)*v1+v1=q*v1:=by
   obtain ⟨k,rfl⟩:∃k,q=k+1:=⟨q-1,by omega⟩
   rw [Nat.add_sub_cancel,Nat.add_mul,Nat.one_mul]
  omega
theorem KN.great(h:KN u v p vl ul v1 v2 u0 u1 u2){q r:Nat}(he:q*v1+r=u1+BB*u0)(hr:BB<=r):q<BB/\q*v2<=r*BB+u2:=by
 have h0:=h.u0_le
 have h1:BB*u0<=BB*v1:=Nat.mul_le_mul_left _ h0
 have h2:q*v1<BB*v1:=by have:=h.u1_lt;omega
 have hq:q<BB:=Nat.lt_of_mul_lt_mul_right h2
 refine ⟨hq,?_⟩
 have h3:q*v2<=BB*BB:=Nat.mul_le_mul (Nat.le_of_lt hq) (Nat.le_of_lt h.v2_lt)
 have h4:BB*BB<=r*BB:=Nat.mul_le_mul_right _ hr
 omega
theorem KN.after(h:KN u v p vl ul v1 v2 u0 u1 u2){q r:Nat}(he:q*v1+r=u1+BB*u0)(hq:q<BB)(ht:q*v2<=r*BB+u2):q*v<u+v:=by
 have h1:q*(v2+BB*v1)<=u2+BB*(u1+BB*u0):=by
  rw [<-he,Nat.mul_add q,Nat.mul_left_comm q,Nat.mul_add BB]
  have:BB*r=r*BB:=Nat.mul_comm _ _
  omega
 have h2:q*v=q*vl+p*(q*(v2+BB*v1)):=by
  rw [h.hv,Nat.mul_add,Nat.mul_left_comm q p]
 have h3:p*(q*(v2+BB*v1))<=p*(u2+BB*(u1+BB*u0)):=Nat.mul_le_mul_left p h1
 have h4:p*(u2+BB*(u1+BB*u0))<=u:=by have:=h.hu;omega
 have h5:q*vl<p*BB:=by
  rw [Nat.mul_comm p]
  exact Nat.lt_of_le_of_lt (Nat.mul_le_mul_right _ (Nat.le_of_lt hq)) (Nat.mul_lt_mul_of_pos_left h.vl_lt BP)
 have h6:=h.v_ge
 omega
end
theorem Sg{l:List Nat}{m:Nat}(h:l.length=m+2):val l=val (l.take m)+BB^m*(l.getD m 0+BB*l.getD (m+1) 0):=by
 have h1:=AK l (m+1)
 have h2:=AK l m
 rw [List.take_of_length_le (by omega)] at h1
 rw [h1,h2,Nat.pow_succ,Nat.mul_assoc,Nat.add_assoc,<-Nat.mul_add]
theorem Se{l:List Nat}{m:Nat}(h:l.length=m+3):val l=val (l.take m)+BB^m*(l.getD m 0+BB*(l.getD (m+1) 0+BB*l.getD (m+2) 0)):=by
 have h1:=AK l (m+2)
 have h2:=AK l (m+1)
 have h3:=AK l m
 rw [List.take_of_length_le (by omega)] at h1
 rw [h1,h2,h3]
 have e1:BB^(m+1)=BB^m*BB:=Nat.pow_succ ..
 have e2:BB^(m+2)=BB^m*(BB*BB):=by rw [Nat.pow_add];rfl
 rw [e1,e2]
 simp only [Nat.mul_add,Nat.mul_assoc,Nat.add_assoc]
theorem Cl{l:List Nat}(h:Bn l)(k:Nat):Bn (l.take k):=λx hx=>h x (List.mem_of_mem_take hx)
theorem LC{l:List Nat}(h:Bn l)(k:Nat):Bn (l.drop k):=λx hx=>h x (List.mem_of_mem_drop hx)
theorem A1L{u v:List Nat}{m:Nat}(hu:u.length=m+3)(hv:v.length=m+2)(su:Bn u)(sv:Bn v)(hpos:0<v.getD (m+1) 0)(hlt:val u<BB*val v) :
  KN (val u) (val v) (BB^m) (val (v.take m)) (val (u.take m)) (v.getD (m+1) 0) (v.getD m 0) (u.getD (m+2) 0) (u.getD (m+1) 0) (u.getD m 0) where
 hv:=Sg hv
 hu:=Se hu
 vl_lt:=by have:=CI (Cl sv m);rwa [List.length_take,Nat.min_eq_left (by omega)] at this
 ul_lt:=by have:=CI (Cl su m);rwa [List.length_take,Nat.min_eq_left (by omega)] at this
 v2_lt:=AD sv _
 v1_lt:=AD sv _
 u0_lt:=AD su _
 u1_lt:=AD su _
 u2_lt:=AD su _
 v1_pos:=hpos
 lt:=hlt
def Win(w:World)(b:Nat)(pre x post:List Nat):Prop:=Blk w b 108 (wv (pre++x++post))
theorem Win.cell{w:World}{b:Nat}{pre x post:List Nat}(h:Win w b pre x post){k:Nat}(hk:k<x.length):w.cell? ⟨b,pre.length+k,none⟩=some (.int .u32 (x.getD k 0:Nat)):=by
 rw [Blk.cell h,Ch (by simp;omega)]
 simp [List.getElem?_append,hk,show ¬pre.length+k<pre.length by omega]
theorem Win.frozen{w:World}{b:Nat}{pre x post:List Nat}(h:Win w b pre x post)(k:Nat):w.frozen? ⟨b,k,none⟩=false:=Blk.frozen h k
theorem Win.set{w:World}{b:Nat}{pre x post:List Nat}(h:Win w b pre x post){k:Nat}(hk:k<x.length)(y:Nat):Win (w.setCell ⟨b,pre.length+k,none⟩ (.int .u32 (y:Int))) b pre (x.set k y) post:=by
 have:=Blk.set h (pre.length+k) (.int .u32 (y:Int))
 rw [EQ] at this
 unfold Win
 have e:(pre++x++post).set (pre.length+k) y=pre++x.set k y++post:=by
  rw [List.append_assoc,List.append_assoc,List.set_append_right _ _ (by omega),Nat.add_sub_cancel_left,List.set_append_left _ _ hk]
 rw [e] at this
 exact this
structure Only(b:Nat)(w w':World):Prop where
 os:w'.os=w.os
 tape:w'.tape=w.tape
 output:w'.output=w.output
 size:w.heap.size<=w'.heap.size
 block:∀k,k<w.heap.size->k≠b->w'.heap[k]? = w.heap[k]?
theorem Only.refl(b:Nat)(w:World):Only b w w:=⟨rfl,rfl,rfl,Nat.le_refl _,λ_ _ _=>rfl⟩
theorem Only.trans{b:Nat}{w1 w2 w3:World}(h:Only b w1 w2)(k:Only b w2 w3):Only b w1 w3:=
 ⟨k.os.trans h.os,k.tape.trans h.tape,k.output.trans h.output,Nat.le_trans h.size k.size,λi hi hne=>(k.block i (Nat.lt_of_lt_of_le hi h.size) hne).trans (h.block i hi hne)⟩
theorem Only.drewN{b:Nat}{w1 w2:World}(h:Only b w1 w2)(n:Nat):Only b w1 (w2.drewN n):=⟨h.os,h.tape,h.output,h.size,h.block⟩
theorem Only.set{b:Nat}{w1 w2:World}(h:Only b w1 w2)(o:Nat)(u:Value):Only b w1 (w2.setCell ⟨b,o,none⟩ u):=
 ⟨h.os,h.tape,h.output,by simpa [World.setCell] using h.size,λi hi hne=>(Below.heap_setCell w2 ⟨b,o,none⟩ u i hne).trans (h.block i hi hne)⟩
theorem Only.cellv{b:Nat}{w1 w2:World}(h:Only b w1 w2){p:Addr}(hp:p.block≠b){v:Value}(hv:w1.cell? p=some v):w2.cell? p=some v:=
 (World.cell?_of_block (w:=w1) (h.block p.block (World.block_lt_of_cell? w1 p hv) hp)).trans hv
theorem Rh(x y c:Nat)(hx:x<4294967296)(hy:y<=4294967296)(hc:c<=1)(hyc:y+c<=4294967296) :
  IntKind.u64.wrap (IntKind.u64.wrap ((x:Int)-y)-c)%4294967296=((x+BB*(if x<y+c then 1 else 0)-y-c:Nat):Int) /\
  IntKind.u64.wrap (IntKind.u64.wrap ((x:Int)-y)-c)/9223372036854775808=((if x<y+c then 1 else 0:Nat):Int):=by
 simp only [IntKind.wrap_u64,Bb]
 split
 .constructor<;>omega
 .constructor<;>omega
theorem A27{q y c z d:Nat}(hz:z<4294967296)(hd:d<=1) :
  IntKind.u64.wrap (IntKind.u64.wrap ((z:Int)-((q:Int)*y+c)%4294967296)-d)%4294967296=((z+BB*(if z<(q*y+c)%BB+d then 1 else 0)-(q*y+c)%BB-d:Nat):Int) /\
  IntKind.u64.wrap (IntKind.u64.wrap ((z:Int)-((q:Int)*y+c)%4294967296)-d)/9223372036854775808=((if z<(q*y+c)%BB+d then 1 else 0:Nat):Int) /\
  ((q:Int)*y+c)/4294967296=(((q*y+c)/BB:Nat):Int):=by
 have e:(q:Int)*y+c=((q*y+c:Nat):Int):=by simp [Int.natCast_add,Int.natCast_mul]
 have hm:=Nat.mod_lt (q*y+c) BP
 have e2:((q:Int)*y+c)%4294967296=(((q*y+c)%BB:Nat):Int):=by rw [e,Bb,Int.natCast_emod];rfl
 have e3:((q:Int)*y+c)/4294967296=(((q*y+c)/BB:Nat):Int):=by rw [e,Bb,Int.natCast_ediv];rfl
 rw [e2,e3]
 rw [Bb] at hm
 obtain ⟨h1,h2⟩:=Rh z ((q*y+c)%BB) d hz (by rw [Bb];omega) hd (by rw [Bb];omega)
 exact ⟨h1,h2,rfl⟩
def MsRel(w wr:World)(b:Nat)(pre post u v x:List Nat)(n q k cy bw:Nat):Prop:=
 x.length=n+1/\Bn x/\Win wr b pre x post/\Only b w wr/\val (x.take k)+q*val (v.take k)=val (u.take k)+BB^k*(cy+bw)/\∀i,k<=i->x.getD i 0=u.getD i 0
theorem MsRel.step{w wr:World}{b:Nat}{pre post u v x:List Nat}{n q k cy bw y z:Nat}(h:MsRel w wr b pre post u v x n q k cy bw)(hk:k<n)(hy:v.getD k 0=y)(hz:x.getD k 0=z)(hzB:z<BB)(hb:bw<=1){e:Int}
  (he:e=(z+BB*(if z<(q*y+cy)%BB+bw then 1 else 0)-(q*y+cy)%BB-bw:Nat)) :
  MsRel w (wr.setCell ⟨b,pre.length+k,none⟩ (.int .u32 e)) b pre post u v (x.set k (z+BB*(if z<(q*y+cy)%BB+bw then 1 else 0)-(q*y+cy)%BB-bw)) n q (k+1) ((q*y+cy)/BB) (if z<(q*y+cy)%BB+bw then 1 else 0):=by
 obtain ⟨h1,h2,h3,h4,h5,h6⟩:=h
 have hm:=Nat.mod_lt (q*y+cy) BP
 have hub:z+BB*(if z<(q*y+cy)%BB+bw then 1 else 0)-(q*y+cy)%BB-bw<BB:=by split<;>omega
 have hue:z+BB*(if z<(q*y+cy)%BB+bw then 1 else 0)-(q*y+cy)%BB-bw+((q*y+cy)%BB+bw)=z+BB*(if z<(q*y+cy)%BB+bw then 1 else 0):=by split<;>omega
 generalize (if z<(q*y+cy)%BB+bw then 1 else 0:Nat)=c1 at *
 generalize hX:z+BB*c1-(q*y+cy)%BB-bw=X at *
 refine ⟨by simpa using h1,BX h2 k hub,by rw [he];exact h3.set (by omega) X,h4.set _ _,?_,λi hi=>?_⟩
 .rw [AK, Cb, BC (by omega), AK u, AK v, hy, <-h6 k (Nat.le_refl _), hz]
  have e2:=Nat.mod_add_div (q*y+cy) BB
  have e3:BB^(k+1)*((q*y+cy)/BB+c1)+BB^k*z=BB^k*X+q*(BB^k*y)+BB^k*(cy+bw):=by
   have e4:BB*((q*y+cy)/BB+c1)+z=X+q*y+(cy+bw):=by rw [Nat.mul_add];omega
   rw [Nat.pow_succ,Nat.mul_assoc,<-Nat.mul_add,e4,Nat.mul_add,Nat.mul_add,Nat.mul_left_comm q]
  rw [Nat.mul_add q]
  omega
 .rw [<-h6 i (by omega)]
  have:k≠i:=by omega
  simp [List.getElem?_set_ne this]
theorem CJ{x:List Nat}{n:Nat}(h:x.length=n+1):val x=val (x.take n)+BB^n*x.getD n 0:=by
 have:=AK x n
 rwa [List.take_of_length_le (by omega)] at this
theorem MsRel.close1{w wr:World}{b:Nat}{pre post u v x:List Nat}{n q cy bw z:Nat}(h:MsRel w wr b pre post u v x n q n cy bw)(hu:u.length=n+1)(hv:v.length=n)(hz:x.getD n 0=z)(hzB:z<BB)(hle:cy+bw<=z)(hQ:val u/val v<=q)(hpos:0<val v){e:Int}(he:e=(z-cy-bw:Nat)) :
  ∃x',x'.length=n+1/\Bn x'/\Win (wr.setCell ⟨b,pre.length+n,none⟩ (.int .u32 e)) b pre x' post/\Only b w (wr.setCell ⟨b,pre.length+n,none⟩ (.int .u32 e))/\val x'+q*val v=val u/\val x'<val v:=by
 obtain ⟨h1,h2,h3,h4,h5,h6⟩:=h
 have ev:v.take n=v:=List.take_of_length_le (by omega)
 rw [ev] at h5
 have Fd:val (x.set n (z-cy-bw))+q*val v=val u:=by
  rw [CJ (n:=n) (by simpa using h1),Cb,BC (by omega),CJ hu,<-h6 n (Nat.le_refl _),hz]
  have:BB^n*z=BB^n*(z-cy-bw)+BB^n*(cy+bw):=by rw [<-Nat.mul_add];congr 1;omega
  omega
 refine ⟨x.set n (z-cy-bw),by simpa using h1,BX h2 n (by omega),by rw [he];exact h3.set (by omega) _,h4.set _ _,Fd,?_⟩
 have h7:val u<(val u/val v+1)*val v:=by
  rw [Nat.mul_comm];exact Nat.lt_mul_div_succ (val u) hpos
 have h8:(val u/val v+1)*val v<=(q+1)*val v:=Nat.mul_le_mul_right _ (by omega)
 rw [Nat.add_mul q,Nat.one_mul] at h8
 omega
theorem MsRel.close2{w wr:World}{b:Nat}{pre post u v x:List Nat}{n q cy bw z:Nat}(h:MsRel w wr b pre post u v x n q n cy bw)(hu:u.length=n+1)(hv:v.length=n)(hz:x.getD n 0=z)(hlt:z<cy+bw)(hcb:cy+bw<=BB){e:Int}(he:e=(z+BB-cy-bw:Nat)) :
  (x.set n (z+BB-cy-bw)).length=n+1/\Bn (x.set n (z+BB-cy-bw))/\Win (wr.setCell ⟨b,pre.length+n,none⟩ (.int .u32 e)) b pre (x.set n (z+BB-cy-bw)) post/\Only b w (wr.setCell ⟨b,pre.length+n,none⟩ (.int .u32 e))/\val (x.set n (z+BB-cy-bw))+q*val v=val u+BB^(n+1):=by
 obtain ⟨h1,h2,h3,h4,h5,h6⟩:=h
 have ev:v.take n=v:=List.take_of_length_le (by omega)
 rw [ev] at h5
 refine ⟨by simpa using h1,BX h2 n (by omega),by rw [he];exact h3.set (by omega) _,h4.set _ _,?_⟩
 rw [CJ (n:=n) (by simpa using h1),Cb,BC (by omega),CJ hu,<-h6 n (Nat.le_refl _),hz]
 have:BB^n*z+BB^n*BB=BB^n*(z+BB-cy-bw)+BB^n*(cy+bw):=by rw [<-Nat.mul_add,<-Nat.mul_add];congr 1;omega
 rw [Nat.pow_succ]
 omega
def AbRel(w wr:World)(b:Nat)(pre post x0 v x:List Nat)(n k cc:Nat):Prop:=
 x.length=n+1/\Bn x/\Win wr b pre x post/\Only b w wr/\val (x.take k)+BB^k*cc=val (x0.take k)+val (v.take k)/\∀i,k<=i->x.getD i 0=x0.getD i 0
theorem AbRel.drewN{w wr:World}{b:Nat}{pre post x0 v x:List Nat}{n k cc:Nat}(h:AbRel w wr b pre post x0 v x n k cc)(q:Nat):AbRel w (wr.drewN q) b pre post x0 v x n k cc:=
 ⟨h.1,h.2.1,h.2.2.1,h.2.2.2.1.drewN q,h.2.2.2.2.1,h.2.2.2.2.2⟩
theorem AbRel.step{w wr:World}{b:Nat}{pre post x0 v x:List Nat}{n k cc y z:Nat}(h:AbRel w wr b pre post x0 v x n k cc)(hk:k<n)(hy:v.getD k 0=y)(hz:x.getD k 0=z)(hyB:y<BB)(hzB:z<BB)(hc:cc<=1){e:Int}(he:e=((z+y+cc)%BB:Nat)) :
  AbRel w (wr.setCell ⟨b,pre.length+k,none⟩ (.int .u32 e)) b pre post x0 v (x.set k ((z+y+cc)%BB)) n (k+1) ((z+y+cc)/BB)/\(z+y+cc)/BB<=1:=by
 obtain ⟨h1,h2,h3,h4,h5,h6⟩:=h
 refine ⟨⟨by simpa using h1,BX h2 k (Nat.mod_lt _ BP),by rw [he];exact h3.set (by omega) _,h4.set _ _,?_,λi hi=>?_⟩,?_⟩
 .rw [AK, Cb, BC (by omega), AK x0, AK v, hy, <-h6 k (Nat.le_refl _), hz]
  have e:=Nat.mod_add_div (z+y+cc) BB
  have e2:BB^k*((z+y+cc)%BB)+BB^(k+1)*((z+y+cc)/BB)=BB^k*(z+y+cc):=by
   rw [Nat.pow_succ,Nat.mul_assoc,<-Nat.mul_add,e]
  rw [Nat.mul_add,Nat.mul_add] at e2
  omega
 .rw [<-h6 i (by omega)]
  have:k≠i:=by omega
  simp [List.getElem?_set_ne this]
 .have:=Nat.div_lt_of_lt_mul (show z+y+cc<BB*2 by omega)
  omega
theorem AbRel.close{w wr:World}{b:Nat}{pre post x0 v x u:List Nat}{n cc z q:Nat}(h:AbRel w wr b pre post x0 v x n n cc)(hx0:x0.length=n+1)(s0:Bn x0)(hv:v.length=n)(hz:x.getD n 0=z)(hzB:z<BB)(hc:cc<=1)
  (h0:val x0+q*val v=val u+BB^(n+1)) (hq:q*val v<val u+val v) {e:Int} (he:e=((z+cc)%BB:Nat)) :
  ∃x',x'.length=n+1/\Bn x'/\Win (wr.setCell ⟨b,pre.length+n,none⟩ (.int .u32 e)) b pre x' post/\Only b w (wr.setCell ⟨b,pre.length+n,none⟩ (.int .u32 e))/\1<=q/\val x'+(q-1)*val v=val u/\val x'<val v:=by
 obtain ⟨h1,h2,h3,h4,h5,h6⟩:=h
 have ev:v.take n=v:=List.take_of_length_le (by omega)
 rw [ev] at h5
 have hx0lt:=CI s0
 rw [hx0] at hx0lt
 have hq1:1<=q:=by
  rcases Nat.eq_zero_or_pos q with h | h
  .subst h;rw [Nat.zero_mul] at h0;omega
  .exact h
 have hqv:(q-1)*val v+val v=q*val v:=by
  obtain ⟨k,rfl⟩:∃k,q=k+1:=⟨q-1,by omega⟩
  rw [Nat.add_sub_cancel,Nat.add_mul,Nat.one_mul]
 have ez:x0.getD n 0=z:=by rw [<-h6 n (Nat.le_refl _),hz]
 have e0:=CJ hx0
 rw [ez] at e0
 have hxt:val (x.take n)<BB^n:=by
  have:=CI (Cl h2 n)
  rwa [List.length_take,Nat.min_eq_left (by omega)] at this
 have epow:BB^(n+1)=BB^n*BB:=Nat.pow_succ ..
 have hsum:val (x.take n)+BB^n*(z+cc)=BB^(n+1)+(val u+val v-q*val v):=by
  rw [Nat.mul_add];omega
 have hzc:z+cc=BB:=by
  rcases Nat.lt_or_ge (z+cc) BB with h | h
  .exfalso
   have h7:BB^n*(z+cc+1)<=BB^n*BB:=Nat.mul_le_mul_left _ h
   rw [Nat.mul_add,<-epow,Nat.mul_one] at h7
   omega
  .omega
 rw [hzc,<-epow] at hsum
 have Fd:val (x.set n ((z+cc)%BB))=val u+val v-q*val v:=by
  rw [CJ (n:=n) (by simpa using h1),Cb,BC (by omega),hzc,Nat.mod_self,Nat.mul_zero,Nat.add_zero]
  omega
 refine ⟨x.set n ((z+cc)%BB),by simpa using h1,BX h2 n (Nat.mod_lt _ BP),by rw [he];exact h3.set (by omega) _,h4.set _ _,hq1,?_,?_⟩
 .rw [Fd];omega
 .rw [Fd];omega
theorem Uk{k:IntKind}{a b:Int}(h:a=b):Ending.returned (.int k a) = .returned (.int k b):=by rw [h]
def ZH(w:World)(b:Nat)(pre post u v:List Nat)(e:Ending)(w':World):Prop:=
 ∃(q:Nat) (x:List Nat),e = .returned (.int .u32 q)/\q<BB/\x.length=u.length/\Bn x/\Win w' b pre x post/\Only b w w'/\val x+q*val v=val u/\val x<val v
def A2z(w:World)(b V1 U0 U1:Nat)(pre post u v:List Nat)(q r:Value)(wx:World):Prop:=
 ∃qn rn:Nat,q = .int .u64 qn/\r = .int .u64 rn/\rn<4294967296/\qn<=8589934592/\Hid (qn*V1+rn=U1+BB*U0/\val u/val v<=qn)/\Hid (Win wx b pre u post/\Only b w wx)
set_option maxRecDepth 1000000 in
theorem JU(b bv ov n cu cv:Nat)(pre post u v:List Nat)(w:World)(hW:Win w b pre u post)(hu:u.length=n+1)(hv:v.length=n)(hn2:2<=n)(hn:n<=4398046511104)(su:Bn u)(sv:Bn v)(hbv:bv≠b)
  (hvc:∀i,i<n->w.cell? ⟨bv,ov+i,none⟩=some (.int .u32 (v.getD i 0:Nat))) (hcu:n+1<=cu) (hcv:n<=cv) (htop:2147483648<=v.getD (n-1) 0) (hlt:val u<BB*val v) :
  Calls Tryz.prog 138 #[.slice (some ⟨b,pre.length,none⟩) (n+1) cu,.slice (some ⟨bv,ov,none⟩) n cv] w (ZH w b pre post u v):=by
 obtain ⟨m,rfl⟩:∃m,n=m+2:=⟨n-2,by omega⟩
 have hK:=Ac (A1L hu hv su sv (by show 0<v.getD (m+1) 0;have:v.getD (m+2-1) 0=v.getD (m+1) 0:=rfl;omega) hlt)
 have hc0:=hW.cell (k:=m+2) (by omega)
 have hc1:=hW.cell (k:=m+1) (by omega)
 have hc2:=hW.cell (k:=m) (by omega)
 have hd1:=hvc (m+1) (by omega)
 have hd2:=hvc m (by omega)
 have hu0:=AD su (m+2)
 have hu1:=AD su (m+1)
 have hu2:=AD su m
 have hv1:=AD sv (m+1)
 have hv2:=AD sv m
 have htop':2147483648<=v.getD (m+1) 0:=htop
 generalize hU0:u.getD (m+2) 0=U0 at *
 generalize hU1:u.getD (m+1) 0=U1 at *
 generalize hU2:u.getD m 0=U2 at *
 generalize hV1:v.getD (m+1) 0=V1 at *
 generalize hV2:v.getD m 0=V2 at *
 replace hU0:=Ac hU0
 replace hU1:=Ac hU1
 replace hU2:=Ac hU2
 replace hV1:=Ac hV1
 replace hV2:=Ac hV2
 unfold BB at hu0 hu1 hu2 hv1 hv2
 replace hW:=Ac hW
 replace hu:=Ac hu
 replace hv:=Ac hv
 replace su:=Ac su
 replace sv:=Ac sv
 replace hvc:=Ac hvc
 replace hlt:=Ac hlt
 clear htop
 generalize hP:pre.length=P at *
 replace hP:=Ac hP
 have hor:=Ic (r:=U0) (x:=U1) hu0 hu1
 have hm:m<=4398046511102:=by omega
 clear hn hn2
 go_enter Tryz.func138,Tryz.ntmps138
 go_wp2
 go_quiet (fail)
 go_wp2
 go_quiet (fail)
 have hT:Hid (((U0:Int)*4294967296+U1)/V1=((U1+BB*U0)/V1:Nat)/\((U0:Int)*4294967296+U1)%V1=((U1+BB*U0)%V1:Nat)):=by
  have e:(U0:Int)*4294967296+U1=((U1+BB*U0:Nat):Int):=by rw [Bb];omega
  rw [e]
  exact ⟨(Int.natCast_ediv _ _).symm,(Int.natCast_emod _ _).symm⟩
 go_upto_block 0 with (fail)
 rw [hT.out.1,hT.out.2]
 go_cut [7,8] (λq r wx=>∃qn:Nat,q = .int .u64 qn/\qn<4294967296/\Hid (val u/val v<=qn/\qn*val v<val u+val v)/\Hid (Win wx b pre u post/\Only b w wx))
 case first=>
  go_wp2
  go_loopw [7,8] (λq r wx=>A2z w b V1 U0 U1 pre post u v q r wx) (λq _ _=>(intOf q).toNat)
  case atStart=>
   have hpos:0<V1:=by omega
   refine ⟨_,_,rfl,rfl,?_,?_,⟨?_,?_⟩,?_⟩
   .have:=Nat.mod_lt (U1+BB*U0) hpos;omega
   .refine Nat.le_of_lt (Nat.div_lt_of_lt_mul ?_)
    have:2147483648*8589934592<=V1*8589934592:=Nat.mul_le_mul_right _ htop'
    rw [Bb];omega
   .rw [Nat.mul_comm];exact Nat.div_add_mod _ _
   .exact hK.out.start
   .exact ⟨hW.out,((Only.refl _ _).drewN _).drewN _⟩
  case round=>
   obtain ⟨q,r,rfl,rfl,hr,hq,hR,hM⟩:=hrel
   have g2:wr.cell? ⟨b,P+m,none⟩=some (.int .u32 (U2:Nat)):=by
    have:=hM.out.1.cell (k:=m) (by rw [hu.out];omega)
    rw [hP.out,hU2.out] at this
    exact this
   have g1:wr.cell? ⟨bv,ov+(m+1),none⟩=some (.int .u32 (V1:Nat)):=hM.out.2.cellv hbv hd1
   have g3:wr.cell? ⟨bv,ov+m,none⟩=some (.int .u32 (V2:Nat)):=hM.out.2.cellv hbv hd2
   have hor2:=Ic (r:=r) (x:=U2) hr hu2
   clear hc0 hc1 hc2 hd1 hd2 hor
   have hdown:=Ac (λht=>hK.out.down hR.out.1 hR.out.2 (q:=q) (r:=r) ht)
   have hdone:Hid (∀q' r',q'*V1+r'=U1+BB*U0->val u/val v<=q'->q'<BB->q'*V2<=r'*BB+U2->val u/val v<=q'/\q'*val v<val u+val v):=λq' r' h1 h2 h3 h4=>⟨h2,hK.out.after h1 h3 h4⟩
   have hgreat:Hid (∀q' r',q'*V1+r'=U1+BB*U0->BB<=r'->q'<BB/\q'*V2<=r'*BB+U2):=λq' r' h1 h2=>hK.out.great h1 h2
   by_cases hqB:4294967296<=q
   .have hdec:decide ((4294967296:Int)<=q)=true:=by simp; omega
    replace hqB:=Ac hqB
    replace hq:=Ac hq
    have hd:=Ac (hdown.out (.inl (by rw [Bb];exact hqB.out)))
    by_cases hrB:4294967296<=r+V1
    .have hrI:(4294967296:Int)<=(r:Int)+V1:=by omega
     replace hrB:=Ac hrB
     go_wp2
     go_quiet (fail)
     have hq1:(1:Int)<=q:=by have:=hqB.out;omega
     have hq2:(q:Int)<=8589934592:=by have:=hq.out;omega
     clear hdec
     go_wp2
     go_meet
     case rel=>
      have h1:=hgreat.out _ _ hd.out.2.2 (by rw [Bb];exact hrB.out)
      exact ⟨q-1,by go_num,by have:=h1.1;rw [Bb] at this;exact this,hdone.out _ _ hd.out.2.2 hd.out.2.1 h1.1 h1.2,hM.out.1,hM.out.2.drewN _⟩
    .have hrI:decide ((4294967296:Int)<=(r:Int)+V1)=false:=by simp; omega
     replace hrB:=Ac hrB
     go_wp2
     go_quiet (fail)
     have hq1:(1:Int)<=q:=by have:=hqB.out;omega
     have hq2:(q:Int)<=8589934592:=by have:=hq.out;omega
     clear hdec
     go_wp2
     exact ⟨⟨q-1,r+V1,by go_num,by go_num,by have:=hrB.out;omega,by have:=hq.out;omega,⟨hd.out.2.2,hd.out.2.1⟩,hM.out.1,hM.out.2.drewN _⟩,by simp [intOf];omega⟩
   .have hdec:decide ((4294967296:Int)<=q)=false:=by simp; omega
    have hqI:q<4294967296:=by omega
    replace hqB:=Ac hqB
    replace hq:=Ac hq
    have hp:(q:Int)*V2<=18446744065119617025:=by have:=DK hqI hv2;omega
    have hp0:(0:Int)<=(q:Int)*V2:=Int.mul_nonneg (by omega) (by omega)
    by_cases hT2:r*4294967296+U2<q*V2
    .have hTd:decide ((r:Int)*4294967296+U2<(q:Int)*V2)=true:=by simp; omega
     have hd:=Ac (hdown.out (.inr (by rw [Bb];exact hT2)))
     replace hT2:=Ac hT2
     have hq1:(1:Int)<=q:=by have:=hd.out.1;omega
     by_cases hrB:4294967296<=r+V1
     .have hrI:decide ((4294967296:Int)<=(r:Int)+V1)=true:=by simp; omega
      replace hrB:=Ac hrB
      go_wp2
      go_quiet (fail)
      clear hp hp0 hTd hdec hor2
      go_wp2
      go_meet
      case rel=>
       have h1:=hgreat.out _ _ hd.out.2.2 (by rw [Bb];exact hrB.out)
       exact ⟨q-1,by go_num,by have:=h1.1;rw [Bb] at this;exact this,hdone.out _ _ hd.out.2.2 hd.out.2.1 h1.1 h1.2,hM.out.1,hM.out.2.drewN _⟩
     .have hrI:decide ((4294967296:Int)<=(r:Int)+V1)=false:=by simp; omega
      replace hrB:=Ac hrB
      go_wp2
      go_quiet (fail)
      clear hp hp0 hTd hdec hor2
      go_wp2
      exact ⟨⟨q-1,r+V1,by go_num,by go_num,by have:=hrB.out;omega,by have:=hq.out;omega,⟨hd.out.2.2,hd.out.2.1⟩,hM.out.1,hM.out.2.drewN _⟩,by simp [intOf];omega⟩
    .have hTd:decide ((r:Int)*4294967296+U2<(q:Int)*V2)=false:=by simp; omega
     replace hT2:=Ac hT2
     go_wp2
     go_quiet (fail)
     go_wp2
     go_meet
     case rel=>exact ⟨q,rfl,hqI,hdone.out _ _ hR.out.1 hR.out.2 (by rw [Bb];exact hqI) (by have:=hT2.out;rw [Bb];omega),hM.out.1,hM.out.2.drewN _⟩
 case rest=>
  obtain ⟨q,rfl,hq,hR,hM⟩:=hcut
  clear hc0 hc1 hc2 hd1 hd2 hor
  go_wp2
  obtain ⟨wo,rfl⟩:∃wo:World,wo=wc:=⟨_,rfl⟩
  go_loopw [9,10,83] (λcy bw i wr=>∃(k c d:Nat) (x:List Nat),k<=m+2/\i = .int .i64 k/\cy = .int .u64 c/\bw = .int .u64 d/\c<4294967296/\d<=1/\Hid (MsRel w wr b pre post u v x (m+2) q k c d)) (λ_ _ i _=>m+2-(intOf i).toNat)
  case atStart=>exact ⟨0,0,0,u,Nat.zero_le _,rfl,rfl,rfl,by omega,by omega,hu.out,su.out,hM.out.1,hM.out.2,by simp [val],λ_ _=>rfl⟩
  case round=>
   obtain ⟨k,c,d,x,hk,rfl,rfl,rfl,hcB,hdB,hS⟩:=hrel
   by_cases hlt:k<m+2
   .have g1:wr.cell? ⟨bv,ov+k,none⟩=some (.int .u32 (v.getD k 0:Nat)):=hS.out.2.2.2.1.cellv hbv (hvc.out k hlt)
    have g2:wr.cell? ⟨b,P+k,none⟩=some (.int .u32 (x.getD k 0:Nat)):=by
     have:=hS.out.2.2.1.cell (k:=k) (by rw [hS.out.1];omega)
     rw [hP.out] at this
     exact this
    have g3:=hS.out.2.2.1.frozen (P+k)
    have hyB:=AD sv.out k
    have hzB:=AD hS.out.2.1 k
    generalize hy:v.getD k 0=y at *
    generalize hz:x.getD k 0=z at *
    replace hy:=Ac hy
    replace hz:=Ac hz
    unfold BB at hyB hzB
    have hp:(q:Int)*y<=18446744065119617025:=by have:=DK hq hyB;omega
    have hp0:(0:Int)<=(q:Int)*y:=Int.mul_nonneg (by omega) (by omega)
    have hnum:=Ac (A27 (q:=q) (y:=y) (c:=c) (z:=z) (d:=d) hzB hdB)
    have hcy:Hid ((q*y+c)/BB<4294967296):=by
     have:=DK hq hyB
     show _/BB<4294967296
     rw [Bb];omega
    go_wp2
    rw [hnum.out.1,hnum.out.2.1,hnum.out.2.2]
    have:=hS.out.step hlt hy.out hz.out (by rw [Bb];exact hzB) hdB (cy:=c) rfl
    rw [hP.out] at this
    exact ⟨⟨k+1,_,_,_,hlt,by simp,rfl,rfl,hcy.out,by split<;>omega,this⟩,by simp [intOf];omega⟩
   .obtain rfl:k=m+2:=by omega
    have g2:wr.cell? ⟨b,P+(m+2),none⟩=some (.int .u32 (x.getD (m+2) 0:Nat)):=by
     have:=hS.out.2.2.1.cell (k:=m+2) (by rw [hS.out.1];omega)
     rw [hP.out] at this
     exact this
    have g3:=hS.out.2.2.1.frozen (P+(m+2))
    have hzB:=AD hS.out.2.1 (m+2)
    generalize hz:x.getD (m+2) 0=z at *
    replace hz:=Ac hz
    unfold BB at hzB
    have hnum:=Ac (Rh z c d hzB (by omega) hdB (by omega))
    by_cases hle:c+d<=z
    .go_wp2
     go_ret
     obtain ⟨x',h1,h2,h3,h4,h5,h6⟩:=hS.out.close1 hu.out hv.out hz.out (by rw [Bb];exact hzB) hle hR.out.1 hK.out.v_pos (e:=(z:Int)-c-d) (by omega)
     rw [hP.out] at h3 h4
     exact ⟨q,x',rfl,by rw [Bb];exact hq,h1.trans hu.out.symm,h2,h3,h4,h5,h6⟩
    .have hbd:(IntKind.u64.wrap (IntKind.u64.wrap ((z:Int)-c)-d)/9223372036854775808==0)=false:=by
      rw [hnum.out.2,if_pos (by omega)];rfl
     have hcl:=hS.out.close2 hu.out hv.out hz.out (by omega) (by rw [Bb];omega) (e:=IntKind.u64.wrap (IntKind.u64.wrap ((z:Int)-c)-d)%4294967296) (by rw [hnum.out.1,if_pos (by omega),Nat.mul_one])
     rw [hP.out] at hcl
     generalize x.set (m+2) (z+BB-c-d)=x0 at hcl
     replace hcl:=Ac hcl
     replace hle:=Ac hle
     go_wp2
     obtain ⟨wp,hwp⟩:∃wp:World,wp=wr.setCell ⟨b,P+(m+2),none⟩ (.int .u32 (IntKind.u64.wrap (IntKind.u64.wrap ((z:Int)-c)-d)%4294967296)):=⟨_,rfl⟩
     rw [<-hwp] at hcl
     rw [<-hwp]
     clear hwp hbd hnum g2 g3 hS
     go_loopw [9,136] (λcy i wr=>∃(k c:Nat) (x:List Nat),k<=m+2/\i = .int .i64 k/\cy = .int .u64 c/\c<=1/\Hid (AbRel w wr b pre post x0 v x (m+2) k c)) (λ_ i _=>m+2-(intOf i).toNat)
     case atStart=>exact ⟨0,0,x0,Nat.zero_le _,rfl,rfl,by omega,hcl.out.1,hcl.out.2.1,hcl.out.2.2.1,hcl.out.2.2.2.1,by simp [val],λ_ _=>rfl⟩
     case round=>
      obtain ⟨k,c,x,hk,rfl,rfl,hc1,hS⟩:=hrel
      by_cases hlt:k<m+2
      .have g1:wr.cell? ⟨bv,ov+k,none⟩=some (.int .u32 (v.getD k 0:Nat)):=hS.out.2.2.2.1.cellv hbv (hvc.out k hlt)
       have g2:wr.cell? ⟨b,P+k,none⟩=some (.int .u32 (x.getD k 0:Nat)):=by
        have:=hS.out.2.2.1.cell (k:=k) (by rw [hS.out.1];omega)
        rw [hP.out] at this
        exact this
       have g3:=hS.out.2.2.1.frozen (P+k)
       have hyB:=AD sv.out k
       have hzB:=AD hS.out.2.1 k
       generalize hy:v.getD k 0=y at *
       generalize hz:x.getD k 0=z at *
       replace hy:=Ac hy
       replace hz:=Ac hz
       unfold BB at hyB hzB
       go_wp2
       go_quiet (fail)
       go_wp2
       have h1:=(hS.out.drewN nq).step hlt hy.out hz.out (by rw [Bb];exact hyB) (by rw [Bb];exact hzB) hc1 (e:=((z:Int)+y+c)%4294967296) (by rw [Bb];omega)
       rw [hP.out] at h1
       exact ⟨⟨k+1,(z+y+c)/BB,_,hlt,by simp,by rw [Bb];congr 1,h1.2,h1.1⟩,by simp [intOf];omega⟩
      .obtain rfl:k=m+2:=by omega
       have g2:wr.cell? ⟨b,P+(m+2),none⟩=some (.int .u32 (x.getD (m+2) 0:Nat)):=by
        have:=hS.out.2.2.1.cell (k:=m+2) (by rw [hS.out.1];omega)
        rw [hP.out] at this
        exact this
       have g3:=hS.out.2.2.1.frozen (P+(m+2))
       have hzB:=AD hS.out.2.1 (m+2)
       generalize hz:x.getD (m+2) 0=z at *
       replace hz:=Ac hz
       unfold BB at hzB
       obtain ⟨x',h1,h2,h3,h4,hq1,h5,h6⟩:=hS.out.close hcl.out.1 hcl.out.2.1 hv.out hz.out (by rw [Bb];exact hzB) hc1 hcl.out.2.2.2.2 hR.out.2 (e:=((z:Int)+c)%4294967296) (by rw [Bb];omega)
       rw [hP.out] at h3 h4
       have hfin:=Ac (And.intro h1 (And.intro h2 (And.intro h3 (And.intro h4 (And.intro h5 h6)))))
       clear h1 h2 h3 h4 h5 h6
       go_wp2
       go_ret
       exact ⟨q-1,x',Uk (by omega),by rw [Bb];omega,hfin.out.1.trans hu.out.symm,hfin.out.2.1,hfin.out.2.2.1,hfin.out.2.2.2.1,hfin.out.2.2.2.2.1,hfin.out.2.2.2.2.2⟩
theorem Vi(x y cc:Nat)(hx:x<4294967296)(hy:y<4294967296)(hc:cc<=1) :
  IntKind.u64.wrap (4294967296+(x:Int))=4294967296+(x:Int)/\IntKind.u64.wrap (4294967296+(x:Int)-y)=4294967296+(x:Int)-y/\IntKind.u64.wrap (4294967296+(x:Int)-y-cc)=4294967296+(x:Int)-y-cc /\
  (4294967296+(x:Int)-y-cc)%4294967296=((x+BB*(if x<cc+y then 1 else 0)-cc-y:Nat):Int)/\(4294967296+(x:Int)-y-cc)%4294967296%4294967296=((x+BB*(if x<cc+y then 1 else 0)-cc-y:Nat):Int) /\
  1-(4294967296+(x:Int)-y-cc)/4294967296=((if x<cc+y then 1 else 0:Nat):Int):=by
 simp only [IntKind.wrap_u64,Bb]
 refine ⟨by omega,by omega,by omega,?_,?_,?_⟩<;>(split<;>omega)
theorem Vh(x y z cc:Nat)(hx:x<4294967296)(hy:y<4294967296)(hz:z<4294967296)(hc:cc<4294967296) :
  IntKind.u64.wrap ((x:Int)*y)=(x:Int)*y/\IntKind.u64.wrap ((x:Int)*y+z)=(x:Int)*y+z/\IntKind.u64.wrap ((x:Int)*y+z+cc)=(x:Int)*y+z+cc/\0<=(x:Int)*y/\0<=(x:Int)*y+z+cc/\(x:Int)*y+z+cc<=18446744073709551615:=by
 have hp:(x:Int)*y<=18446744065119617025:=by have:=DK hx hy;omega
 have hp0:(0:Int)<=(x:Int)*y:=Int.mul_nonneg (by omega) (by omega)
 generalize (x:Int)*y=p at *
 simp only [IntKind.wrap_u64]
 omega
theorem IS(va vb:Value)(la lb:List Nat)(w:World)(ha:Words w va la)(hb:Words w vb lb)(hv:val lb<=val la)(hl:lb.length<=la.length)(hn:la.length<=4398046511104) :
  Calls Tryz.prog 113 #[va,vb] w λe w'=>∃v',e = .returned v'/\Words w' v' (Am (val la-val lb))/\Ext w w':=by
 obtain ⟨A,c,rfl,hc,hm,hx⟩:=ha.open_
 obtain ⟨B,d,rfl,hd,hm',hy⟩:=hb.open_
 have Ha:=Ac ha
 have Hb:=Ac hb
 have hsa:=Ac ha.small
 have hsb:=Ac hb.small
 clear ha hb
 have hA:=Ac hx
 have hB:=Ac hy
 clear hx hy
 replace hv:=Ac hv
 obtain ⟨n,hn1⟩:∃n,n=la.length:=⟨_,rfl⟩
 obtain ⟨m,hm1⟩:∃m,m=lb.length:=⟨_,rfl⟩
 rw [<-hn1] at hc hl hn ⊢
 rw [<-hm1] at hd hl ⊢
 replace hn1:=Ac hn1
 replace hm1:=Ac hm1
 have hmk:=λW=>By n (by omega) .i64 .i64 W
 go_enter Tryz.func113,Tryz.ntmps113
 go_wp2
 go_loopw [6,7] (λcy i wr=>∃(k cc:Nat) (r:List Nat),k<=n/\i = .int .i64 k/\cy = .int .u64 cc/\cc<=1/\Hid (DifRel w wr la lb r n k cc)) (λ_ i _=>n-(intOf i).toNat)
 case atStart=>exact ⟨0,0,List.replicate n 0,Nat.zero_le _,rfl,rfl,by omega,⟨by simp,Bs _,Blk.new _ _ _,by simp [val],(Ext.refl _).alloc _⟩⟩
 case round=>
  obtain ⟨k,cc,r,hk,rfl,rfl,hcc,hR⟩:=hrel
  by_cases hlt:k<n
  .have hdk:decide ((k:Int)<n)=true:=by simpa using hlt
   obtain ⟨b,o,rfl,hb,hcell⟩:=hA.out (by rw [<-hn1.out];omega)
   replace hcell:=(hR.out.2.2.2.2.cell (p:=⟨b,o+k,none⟩) hb).trans (hcell k (by rw [<-hn1.out];omega))
   have hxB:=AD hsa.out k
   have hyB:=AD hsb.out k
   generalize hx:la.getD k 0=x at *
   generalize hy:lb.getD k 0=y at *
   replace hx:=Ac hx
   replace hy:=Ac hy
   unfold BB at hxB hyB
   have Hw:Hid (Words wr (.slice B m d) lb):=by rw [hm1.out];exact Hb.out.ext hR.out.2.2.2.2
   have hnum:=Ac (Vi x y cc hxB hyB hcc)
   have hi:¬n<=k:=by omega
   have hcv:Hid (IntKind.u64.wrap (x:Int)=x):=Ac (IntWalk.u64_in _ (by omega))
   have hg1:(4294967296:Int)+x-y-cc<=8589934591:=by omega
   have hg2:0<=(4294967296:Int)+x-y-cc:=by omega
   go_upto_region 6 with (fail)
   refine wp_region_v (by kernel_rfl) [[], [], [(18, 0), (19, 1)], [(20, 2)], [(21, 3)], [(22, 4)], [], [], [(24, 6), (25, 7)], [(23, 5), (26, 8)], [], [(27, 9), (28, 10)]] [[], [], [0, 1], [0, 1, 2], [0, 1, 2, 3], [0, 1, 2, 3, 4], [], [], [6, 7], [0, 1, 2, 3, 4, 5, 6, 7, 8], [], [0, 1, 2, 3, 4, 5, 6, 7, 8, 9, 10]]
    [λv _=>v = .slice (some ⟨b,o,none⟩) n c,λv _=>v = .int .i64 (k:Int),λv _=>v = .pointer (some ⟨b,o+k,none⟩),λv _=>v = .int .u32 (x:Int),λv _=>v = .int .u64 (x:Int),λv _=>v = .int .u64 (4294967296+(x:Int)),λv _=>v = .slice B m d,λv _=>v = .int .i64 (k:Int),λv _=>v = .int .u64 (y:Int),λv _=>v = .int .u64 (4294967296+(x:Int)-y),λv _=>v = .int .u64 (cc:Int),λv _=>v = .int .u64 (4294967296+(x:Int)-y-cc)]
    rfl (by kernel_rfl) (by kernel_rfl) ?stab ?steps ?fin
   case stab=>exact .cons (Stab.eq _) (.cons (Stab.eq _) (.cons (Stab.eq _) (.cons (Stab.eq _) (.cons (Stab.eq _) (.cons (Stab.eq _) (.cons (Stab.eq _) (.cons (Stab.eq _) (.cons (Stab.eq _) (.cons (Stab.eq _) (.cons (Stab.eq _) (.cons (Stab.eq _) .nil)))))))))))
   case steps=>
    refine .cons ?s0 (.cons ?s1 (.cons ?s2 (.cons ?s3 (.cons ?s4 (.cons ?s5 (.cons ?s6 (.cons ?s7 (.cons ?s8 (.cons ?s9 (.cons ?s10 (.cons ?s11 .nil)))))))))))
    case s0=>
     intro w' ev hE hk ha hc hf
     have e0:ev (.tmp 0) = .slice (some ⟨b,o,none⟩) n c:=ha 0 (by decide)
     exact Ag (by simp [execOp,e0,go_sem]) rfl
    case s1=>
     intro w' ev hE hk ha hc hf
     have e7:ev (.tmp 7) = .int .i64 (k:Int):=ha 7 (by decide)
     exact Ag (by simp [execOp,e7,go_sem]) rfl
    case s2=>
     intro w' ev hE hk ha hc hf
     have e18:ev (.tmp 18) = .slice (some ⟨b,o,none⟩) n c:=hk.1 _ rfl
     have e19:ev (.tmp 19) = .int .i64 (k:Int):=hk.2.1 _ rfl
     exact Ag (by simp [execOp,e18,e19,hi,go_sem]) rfl
    case s3=>
     intro w' ev hE hk ha hc hf
     have e20:ev (.tmp 20) = .pointer (some ⟨b,o+k,none⟩):=hk.1 _ rfl
     have c0:w'.cell? ⟨b,o+k,none⟩=some (.int .u32 (x:Int)):=hE.cellv hcell
     exact Ag (by simp [execOp,e20,c0,go_sem]) rfl
    case s4=>
     intro w' ev hE hk ha hc hf
     have e21:ev (.tmp 21) = .int .u32 (x:Int):=hk.1 _ rfl
     exact Ag (by simp [execOp,e21,hcv.out,go_sem]) rfl
    case s5=>
     intro w' ev hE hk ha hc hf
     have e22:ev (.tmp 22) = .int .u64 (x:Int):=hk.1 _ rfl
     exact Ag (by simp [execOp,e22,hc,hnum.out.1,go_sem]) rfl
    case s6=>
     intro w' ev hE hk ha hc hf
     have e1:ev (.tmp 1) = .slice B m d:=ha 1 (by decide)
     exact Ag (by simp [execOp,e1,go_sem]) rfl
    case s7=>
     intro w' ev hE hk ha hc hf
     have e7:ev (.tmp 7) = .int .i64 (k:Int):=ha 7 (by decide)
     exact Ag (by simp [execOp,e7,go_sem]) rfl
    case s8=>
     intro w' ev hE hk ha hc hf
     have e24:ev (.tmp 24) = .slice B m d:=hk.1 _ rfl
     have e25:ev (.tmp 25) = .int .i64 (k:Int):=hk.2.1 _ rfl
     refine Aw (by simp [execOp,resolve,invoke,hf,e24,e25,go_sem]) (Fg _ lb k y _ (Hw.out.ext ((Ext.refl _).drew.trans hE)) hy.out) ?_
     rintro e w1 ⟨rfl,rfl⟩
     exact ⟨_,rfl,Ext.refl _,rfl⟩
    case s9=>
     intro w' ev hE hk ha hc hf
     have e23:ev (.tmp 23) = .int .u64 (4294967296+(x:Int)):=hk.1 _ rfl
     have e26:ev (.tmp 26) = .int .u64 (y:Int):=hk.2.1 _ rfl
     exact Ag (by simp [execOp,e23,e26,hnum.out.2.1,go_sem]) rfl
    case s10=>
     intro w' ev hE hk ha hc hf
     have e6:ev (.tmp 6) = .int .u64 (cc:Int):=ha 6 (by decide)
     exact Ag (by simp [execOp,e6,go_sem]) rfl
    case s11=>
     intro w' ev hE hk ha hc hf
     have e27:ev (.tmp 27) = .int .u64 (4294967296+(x:Int)-y):=hk.1 _ rfl
     have e28:ev (.tmp 28) = .int .u64 (cc:Int):=hk.2.1 _ rfl
     exact Ag (by simp [execOp,e27,e28,hnum.out.2.2.1,go_sem]) rfl
   case fin=>
    intro gf w' hE hF
    have e11:=hF 11 _ rfl
    simp only [List.length_cons,List.length_nil,Nat.reduceAdd,List.drop_succ_cons,List.drop_zero,List.take_succ_cons,List.take_zero,CM,Act.put,List.setIfInBounds_toArray,List.set_cons_succ,List.set_cons_zero,e11]
    replace hE:=Ac ((Ext.refl _).drew.trans hE)
    have hR':Hid (DifRel w w' la lb r n k cc):=⟨hR.out.1,hR.out.2.1,hR.out.2.2.1.ext hE.out,hR.out.2.2.2.1,hR.out.2.2.2.2.trans hE.out⟩
    have hst:w'.cell? ⟨w.heap.size,k,none⟩=some (.int .u32 (r.getD k 0:Nat)):=by rw [hR'.out.2.2.1.cell,Ch (by rw [hR'.out.1];omega)]
    have hfz:=hR'.out.2.2.1.frozen k
    clear hF e11 hE hR Hw
    obtain ⟨t,ht⟩:∃t:Int,t=4294967296+(x:Int)-y-cc:=⟨_,rfl⟩
    rw [<-ht] at hg1 hg2 hnum ⊢
    replace ht:=Ac ht
    generalize r.getD k 0=old at *
    go_wp2
    exact ⟨hR'.out.step hlt hx.out hy.out hxB hyB hcc (by first | exact hnum.out.2.2.2.1 | exact hnum.out.2.2.2.2.1) hnum.out.2.2.2.2.2,by simp [intOf];omega⟩
  .obtain rfl:k=n:=by omega
   have hcl:=Ac (hR.out.close hn1.out.symm (by rw [<-hm1.out];exact hl) hv.out)
   have hW:Hid (Words wr (.slice (some ⟨w.heap.size,0,none⟩) k k) r):=by
    have:=Bu (c:=k) hR.out.2.2.1 hR.out.2.1 (by rw [hR.out.1];omega) (by omega)
    rw [hR.out.1] at this
    exact this
   go_wp2_with (go_at_call 103;refine (DO _ _ _ hW.out).mono ?_;rintro e w' ⟨v',rfl,hv',hE⟩)
   go_ret
   refine ⟨v',rfl,?_,hR.out.2.2.2.2.trans hE⟩
   rw [AM hR.out.2.1,hcl.out] at hv'
   exact hv'
theorem IR(va vb:Value)(la lb:List Nat)(w:World)(ha:Words w va la)(hb:Words w vb lb)(hn:la.length<=4398046511104)(hm:lb.length<=4398046511104) :
  Calls Tryz.prog 114 #[va,vb] w λe w'=>∃v',e = .returned v'/\Words w' v' (Am (val la*val lb))/\Ext w w':=by
 obtain ⟨A,c,rfl,hc,hm',hx⟩:=ha.open_
 obtain ⟨B,d,rfl,hd,hm'',hy⟩:=hb.open_
 have hsa:=Ac ha.small
 have hsb:=Ac hb.small
 clear ha hb
 have hA:=Ac hx
 have hB:=Ac hy
 clear hx hy
 obtain ⟨n,hn1⟩:∃n,n=la.length:=⟨_,rfl⟩
 obtain ⟨m,hm1⟩:∃m,m=lb.length:=⟨_,rfl⟩
 rw [<-hn1] at hc hn ⊢
 rw [<-hm1] at hd hm ⊢
 replace hn1:=Ac hn1
 replace hm1:=Ac hm1
 have hmk:=λW=>By (n+m) (by omega) .i64 .i64 W
 simp only [Int.natCast_add] at hmk
 go_enter Tryz.func114,Tryz.ntmps114
 go_wp2
 go_loopw [6] (λi wr=>∃(k:Nat) (r:List Nat),k<=n/\i = .int .i64 k/\Hid (TE w wr la lb r n m k)) (λi _=>n-(intOf i).toNat)
 case atStart => exact ⟨0, List.replicate (n + m) 0, Nat.zero_le _, rfl, by simp, Bs _, Blk.new _ _ _, by
  have:∀q,val (List.replicate q 0)=0:=λq=>by
   induction q with
   | zero=>rfl
   | succ q ih=>simp [List.replicate_succ,val,ih]
  simp [val,List.take_replicate,this],(Ext.refl _).alloc _⟩
 case round=>
  obtain ⟨k,r,hk,rfl,hR⟩:=hrel
  by_cases hlt:k<n
  .obtain ⟨b, o, rfl, hb, hcell⟩:=hA.out (by rw [<-hn1.out]; omega)
   replace hcell:=(hR.out.2.2.2.2.cell (p:=⟨b,o+k,none⟩) hb).trans (hcell k (by rw [<-hn1.out];omega))
   have hxB:=AD hsa.out k
   generalize hx:la.getD k 0=x at *
   replace hx:=Ac hx
   unfold BB at hxB
   go_wp2
   obtain ⟨wo,rfl⟩:∃wo:World,wo=wr:=⟨_,rfl⟩
   go_loopw [7,8] (λcy i wr=>∃(j cc:Nat) (r:List Nat),j<=m/\i = .int .i64 j/\cy = .int .u64 cc/\cc<4294967296/\Hid (MulIn w wr la lb r n m k j x cc)) (λ_ i _=>m-(intOf i).toNat)
   case atStart=>exact ⟨0,0,r,Nat.zero_le _,rfl,rfl,by omega,hR.out.1,hR.out.2.1,hR.out.2.2.1,by simp [val,hR.out.2.2.2.1],hR.out.2.2.2.2⟩
   case round=>
    obtain ⟨j,cc,r,hj,rfl,rfl,hcc,hI⟩:=hrel
    by_cases hjm:j<m
    .obtain ⟨b', o', rfl, hb', hcell'⟩:=hB.out (by rw [<-hm1.out]; omega)
     replace hcell':=(hI.out.2.2.2.2.cell (p:=⟨b',o'+j,none⟩) hb').trans (hcell' j (by rw [<-hm1.out];omega))
     have hyB:=AD hsb.out j
     have hzB:=AD hI.out.2.1 (k+j)
     have hst:wr.cell? ⟨w.heap.size,k+j,none⟩=some (.int .u32 (r.getD (k+j) 0:Nat)):=by rw [hI.out.2.2.1.cell,Ch (by rw [hI.out.1];omega)]
     have hfz:=hI.out.2.2.1.frozen (k+j)
     generalize hy:lb.getD j 0=y at *
     generalize hz:r.getD (k+j) 0=z at *
     replace hy:=Ac hy
     replace hz:=Ac hz
     unfold BB at hyB hzB
     have hcw:wr.cell? ⟨b,o+k,none⟩=some (.int .u32 (x:Int)):=(hI.out.2.2.2.2.cell (p:=⟨b,o+k,none⟩) hb).trans ((hR.out.2.2.2.2.cell (p:=⟨b,o+k,none⟩) hb).symm.trans hcell)
     have hnum:=Ac (Vh x y z cc hxB hyB hzB hcc)
     have hg1:(x:Int)*y+z+cc<=18446744073709551615:=hnum.out.2.2.2.2.2
     have hg2:0<=(x:Int)*y+z+cc:=hnum.out.2.2.2.2.1
     have hi1:¬n<=k:=by omega
     have hi2:¬m<=j:=by omega
     have hi3:¬n+m<=k+j:=by omega
     have hi4:IntKind.i64.wrap ((k:Int)+j)=(k:Int)+j:=IntWalk.i64_in _ (by omega)
     have hi5:((k:Int)+j).toNat=k+j:=by omega
     have hi6:(k:Int)+j<(n:Int)+m:=by omega
     have hi7:0<=(k:Int)+j:=by omega
     have hcv1:Hid (IntKind.u64.wrap (x:Int)=x):=Ac (IntWalk.u64_in _ (by omega))
     have hcv2:Hid (IntKind.u64.wrap (y:Int)=y):=Ac (IntWalk.u64_in _ (by omega))
     have hcv3:Hid (IntKind.u64.wrap (z:Int)=z):=Ac (IntWalk.u64_in _ (by omega))
     replace hi4:=Ac hi4
     replace hi5:=Ac hi5
     go_upto_region 9 with (fail)
     refine wp_region_v (by kernel_rfl) [[], [], [(28, 0), (29, 1)], [(30, 2)], [(31, 3)], [], [], [(33, 5), (34, 6)], [(35, 7)], [(36, 8)], [(32, 4), (37, 9)], [], [], [], [(40, 12), (41, 13)], [(39, 11), (42, 14)], [(43, 15)], [(44, 16)], [(38, 10), (45, 17)], [], [(46, 18), (47, 19)]] [[], [], [0, 1], [0, 1, 2], [0, 1, 2, 3], [], [], [5, 6], [5, 6, 7], [5, 6, 7, 8], [0, 1, 2, 3, 4, 5, 6, 7, 8, 9], [], [], [], [12, 13], [11, 12, 13, 14], [11, 12, 13, 14, 15], [11, 12, 13, 14, 15, 16], [0, 1, 2, 3, 4, 5, 6, 7, 8, 9, 10, 11, 12, 13, 14, 15, 16, 17], [], [0, 1, 2, 3, 4, 5, 6, 7, 8, 9, 10, 11, 12, 13, 14, 15, 16, 17, 18, 19]]
      [λv _=>v = .slice (some ⟨b,o,none⟩) n c,λv _=>v = .int .i64 (k:Int),λv _=>v = .pointer (some ⟨b,o+k,none⟩),λv _=>v = .int .u32 (x:Int),λv _=>v = .int .u64 (x:Int),λv _=>v = .slice (some ⟨b',o',none⟩) m d,λv _=>v = .int .i64 (j:Int),λv _=>v = .pointer (some ⟨b',o'+j,none⟩),λv _=>v = .int .u32 (y:Int),λv _=>v = .int .u64 (y:Int),λv _=>v = .int .u64 ((x:Int)*y),λv _=>v = .slice (some ⟨w.heap.size,0,none⟩) (n+m) (n+m),λv _=>v = .int .i64 (k:Int),λv _=>v = .int .i64 (j:Int),λv _=>v = .int .i64 ((k:Int)+j),λv _=>v = .pointer (some ⟨w.heap.size,k+j,none⟩),λv _=>v = .int .u32 (z:Int),λv _=>v = .int .u64 (z:Int),λv _=>v = .int .u64 ((x:Int)*y+z),λv _=>v = .int .u64 (cc:Int),λv _=>v = .int .u64 ((x:Int)*y+z+cc)]
      rfl (by kernel_rfl) (by kernel_rfl) ?stab ?steps ?fin
     case stab=>exact .cons (Stab.eq _) (.cons (Stab.eq _) (.cons (Stab.eq _) (.cons (Stab.eq _) (.cons (Stab.eq _) (.cons (Stab.eq _) (.cons (Stab.eq _) (.cons (Stab.eq _) (.cons (Stab.eq _) (.cons (Stab.eq _) (.cons (Stab.eq _) (.cons (Stab.eq _) (.cons (Stab.eq _) (.cons (Stab.eq _) (.cons (Stab.eq _) (.cons (Stab.eq _) (.cons (Stab.eq _) (.cons (Stab.eq _) (.cons (Stab.eq _) (.cons (Stab.eq _) (.cons (Stab.eq _) .nil))))))))))))))))))))
     case steps=>
      refine .cons ?s0 (.cons ?s1 (.cons ?s2 (.cons ?s3 (.cons ?s4 (.cons ?s5 (.cons ?s6 (.cons ?s7 (.cons ?s8 (.cons ?s9 (.cons ?s10 (.cons ?s11 (.cons ?s12 (.cons ?s13 (.cons ?s14 (.cons ?s15 (.cons ?s16 (.cons ?s17 (.cons ?s18 (.cons ?s19 (.cons ?s20 .nil))))))))))))))))))))
      case s0=>
       intro w' ev hE hk ha hc hf
       have e0:ev (.tmp 0) = .slice (some ⟨b,o,none⟩) n c:=ha 0 (by decide)
       exact Ag (by simp [execOp,e0,go_sem]) rfl
      case s1=>
       intro w' ev hE hk ha hc hf
       have e6:ev (.tmp 6) = .int .i64 (k:Int):=ha 6 (by decide)
       exact Ag (by simp [execOp,e6,go_sem]) rfl
      case s2=>
       intro w' ev hE hk ha hc hf
       have e28:ev (.tmp 28) = .slice (some ⟨b,o,none⟩) n c:=hk.1 _ rfl
       have e29:ev (.tmp 29) = .int .i64 (k:Int):=hk.2.1 _ rfl
       exact Ag (by simp [execOp,e28,e29,hi1,go_sem]) rfl
      case s3=>
       intro w' ev hE hk ha hc hf
       have e30:ev (.tmp 30) = .pointer (some ⟨b,o+k,none⟩):=hk.1 _ rfl
       have c0:w'.cell? ⟨b,o+k,none⟩=some (.int .u32 (x:Int)):=hE.cellv hcw
       exact Ag (by simp [execOp,e30,c0,go_sem]) rfl
      case s4=>
       intro w' ev hE hk ha hc hf
       have e31:ev (.tmp 31) = .int .u32 (x:Int):=hk.1 _ rfl
       exact Ag (by simp [execOp,e31,hcv1.out,go_sem]) rfl
      case s5=>
       intro w' ev hE hk ha hc hf
       have e1:ev (.tmp 1) = .slice (some ⟨b',o',none⟩) m d:=ha 1 (by decide)
       exact Ag (by simp [execOp,e1,go_sem]) rfl
      case s6=>
       intro w' ev hE hk ha hc hf
       have e8:ev (.tmp 8) = .int .i64 (j:Int):=ha 8 (by decide)
       exact Ag (by simp [execOp,e8,go_sem]) rfl
      case s7=>
       intro w' ev hE hk ha hc hf
       have e33:ev (.tmp 33) = .slice (some ⟨b',o',none⟩) m d:=hk.1 _ rfl
       have e34:ev (.tmp 34) = .int .i64 (j:Int):=hk.2.1 _ rfl
       exact Ag (by simp [execOp,e33,e34,hi2,go_sem]) rfl
      case s8=>
       intro w' ev hE hk ha hc hf
       have e35:ev (.tmp 35) = .pointer (some ⟨b',o'+j,none⟩):=hk.1 _ rfl
       have c0:w'.cell? ⟨b',o'+j,none⟩=some (.int .u32 (y:Int)):=hE.cellv hcell'
       exact Ag (by simp [execOp,e35,c0,go_sem]) rfl
      case s9=>
       intro w' ev hE hk ha hc hf
       have e36:ev (.tmp 36) = .int .u32 (y:Int):=hk.1 _ rfl
       exact Ag (by simp [execOp,e36,hcv2.out,go_sem]) rfl
      case s10=>
       intro w' ev hE hk ha hc hf
       have e32:ev (.tmp 32) = .int .u64 (x:Int):=hk.1 _ rfl
       have e37:ev (.tmp 37) = .int .u64 (y:Int):=hk.2.1 _ rfl
       exact Ag (by simp [execOp,e32,e37,hnum.out.1,go_sem]) rfl
      case s11=>
       intro w' ev hE hk ha hc hf
       have e5:ev (.tmp 5) = .slice (some ⟨w.heap.size,0,none⟩) (n+m) (n+m):=ha 5 (by decide)
       exact Ag (by simp [execOp,e5,go_sem]) rfl
      case s12=>
       intro w' ev hE hk ha hc hf
       have e6:ev (.tmp 6) = .int .i64 (k:Int):=ha 6 (by decide)
       exact Ag (by simp [execOp,e6,go_sem]) rfl
      case s13=>
       intro w' ev hE hk ha hc hf
       have e8:ev (.tmp 8) = .int .i64 (j:Int):=ha 8 (by decide)
       exact Ag (by simp [execOp,e8,go_sem]) rfl
      case s14=>
       intro w' ev hE hk ha hc hf
       have e40:ev (.tmp 40) = .int .i64 (k:Int):=hk.1 _ rfl
       have e41:ev (.tmp 41) = .int .i64 (j:Int):=hk.2.1 _ rfl
       exact Ag (by simp [execOp,e40,e41,hi4.out,go_sem]) rfl
      case s15=>
       intro w' ev hE hk ha hc hf
       have e39:ev (.tmp 39) = .slice (some ⟨w.heap.size,0,none⟩) (n+m) (n+m):=hk.1 _ rfl
       have e42:ev (.tmp 42) = .int .i64 ((k:Int)+j):=hk.2.1 _ rfl
       exact Ag (by simp [execOp,e39,e42,hi3,hi5.out,hi6,hi7,go_sem]) rfl
      case s16=>
       intro w' ev hE hk ha hc hf
       have e43:ev (.tmp 43) = .pointer (some ⟨w.heap.size,k+j,none⟩):=hk.1 _ rfl
       have c0:w'.cell? ⟨w.heap.size,k+j,none⟩=some (.int .u32 (z:Int)):=hE.cellv hst
       exact Ag (by simp [execOp,e43,c0,go_sem]) rfl
      case s17=>
       intro w' ev hE hk ha hc hf
       have e44:ev (.tmp 44) = .int .u32 (z:Int):=hk.1 _ rfl
       exact Ag (by simp [execOp,e44,hcv3.out,go_sem]) rfl
      case s18=>
       intro w' ev hE hk ha hc hf
       have e38:ev (.tmp 38) = .int .u64 ((x:Int)*y):=hk.1 _ rfl
       have e45:ev (.tmp 45) = .int .u64 (z:Int):=hk.2.1 _ rfl
       exact Ag (by simp [execOp,e38,e45,hnum.out.2.1,go_sem]) rfl
      case s19=>
       intro w' ev hE hk ha hc hf
       have e7:ev (.tmp 7) = .int .u64 (cc:Int):=ha 7 (by decide)
       exact Ag (by simp [execOp,e7,go_sem]) rfl
      case s20=>
       intro w' ev hE hk ha hc hf
       have e46:ev (.tmp 46) = .int .u64 ((x:Int)*y+z):=hk.1 _ rfl
       have e47:ev (.tmp 47) = .int .u64 (cc:Int):=hk.2.1 _ rfl
       exact Ag (by simp [execOp,e46,e47,hnum.out.2.2.1,go_sem]) rfl
     case fin=>
      intro gf w' hE hF
      have e20:=hF 20 _ rfl
      simp only [List.length_cons,List.length_nil,Nat.reduceAdd,List.drop_succ_cons,List.drop_zero,List.take_succ_cons,List.take_zero,CM,Act.put,List.setIfInBounds_toArray,List.set_cons_succ,List.set_cons_zero,e20]
      replace hE:=Ac ((Ext.refl _).drew.trans hE)
      have hI':Hid (MulIn w w' la lb r n m k j x cc):=⟨hI.out.1,hI.out.2.1,hI.out.2.2.1.ext hE.out,hI.out.2.2.2.1,hI.out.2.2.2.2.trans hE.out⟩
      replace hst:=hE.out.cellv hst
      replace hfz:=hI'.out.2.2.1.frozen (k+j)
      clear hF e20 hE hI hcell hcell' hcw hi4 hi5 hi1 hi2 hi3 hi6 hi7 hcv1 hcv2 hcv3
      have hs1:=Ac (hI'.out.step (u:=((x:Int)*y+z+cc)%4294967296) (v:=((x:Int)*y+z+cc)/4294967296) hjm hlt hy.out hz.out hxB hyB hzB hcc (by rw [Bb];simp) (by rw [Bb];simp))
      generalize (x:Int)*y+z+cc=T at *
      go_wp2
      exact ⟨by first | exact hs1.out | (rw [Int.emod_emod_of_dvd];exact hs1.out),by simp [intOf];omega⟩
    .obtain rfl:j=m:=by omega
     have hst:wr.cell? ⟨w.heap.size,k+j,none⟩=some (.int .u32 (r.getD (k+j) 0:Nat)):=by rw [hI.out.2.2.1.cell,Ch (by rw [hI.out.1];omega)]
     have hfz:=hI.out.2.2.1.frozen (k+j)
     have hcl:=Ac (hI.out.close hlt hm1.out.symm hx.out hcc)
     go_wp2
     exact ⟨⟨k+1,_,hlt,by simp,hcl⟩,by simp [intOf];omega⟩
  .obtain rfl:k=n:=by omega
   have hW:Hid (Words wr (.slice (some ⟨w.heap.size,0,none⟩) (k+m) (k+m)) r):=by
    have:=Bu (c:=k+m) hR.out.2.2.1 hR.out.2.1 (by rw [hR.out.1];omega) (by omega)
    rw [hR.out.1] at this
    exact this
   have hcl:Hid (val r=val la*val lb):=by
    have h1:=hR.out.2.2.2.1
    have er:r.take (k+m)=r:=List.take_of_length_le (by rw [hR.out.1];omega)
    have ea:la.take k=la:=List.take_of_length_le (by rw [<-hn1.out];omega)
    rw [er,ea] at h1
    exact h1
   go_wp2_with (go_at_call 103;refine (DO _ _ _ hW.out).mono ?_;rintro e w' ⟨v',rfl,hv',hE⟩)
   go_ret
   refine ⟨v',rfl,?_,hR.out.2.2.2.2.trans hE⟩
   rw [AM hR.out.2.1,hcl.out] at hv'
   exact hv'
theorem Ds(va vb:Value)(x y:Nat)(w:World)(ha:Words w va (Am x))(hb:Words w vb (Am y)) :
  Calls Tryz.prog 75 #[va,vb] w λe w'=>e = .returned (.int .i64 (Df x y))/\Ext w w':=by
 obtain ⟨A,c,rfl,hc,hm',hx⟩:=ha.open_
 obtain ⟨B,d,rfl,hd,hm'',hy⟩:=hb.open_
 clear ha hb
 have hA:=Ac hx
 have hB:=Ac hy
 clear hx hy
 obtain ⟨n,hn1⟩:∃n,n=(Am x).length:=⟨_,rfl⟩
 obtain ⟨m,hm1⟩:∃m,m=(Am y).length:=⟨_,rfl⟩
 rw [<-hn1] at hc ⊢
 rw [<-hm1] at hd ⊢
 replace hn1:=Ac hn1
 replace hm1:=Ac hm1
 rcases Nat.lt_trichotomy n m with hlt | heq | hgt
 .have hne:decide ((n:Int)<m)=true:=by simp; omega
  have hne2:decide ((m:Int)<n)=false:=by simp;omega
  go_enter Tryz.func75,Tryz.ntmps75
  go_wp2
  go_ret
  exact ⟨by rw [HO (by rw [<-hn1.out,<-hm1.out];exact hlt)];rfl,Ext.refl _⟩
 .subst heq
  have hne:decide ((n:Int)<n)=false:=by simp
  go_enter Tryz.func75,Tryz.ntmps75
  go_wp2
  go_loopw [5] (λi wr=>∃k:Nat,k<=n/\i = .int .i64 ((k:Int)-1)/\Hid (Ext w wr/\∀i,k<=i->(Am x).getD i 0=(Am y).getD i 0)) (λi _=>(intOf i+1).toNat)
  case atStart=>exact ⟨n,Nat.le_refl _,rfl,Ext.refl _,λi hi=>by
   have h1:(Am x).length<=i:=by rw [<-hn1.out];exact hi
   have h2:(Am y).length<=i:=by rw [<-hm1.out];exact hi
   simp [h1,h2]⟩
  case round=>
   obtain ⟨k,hk,rfl,hR⟩:=hrel
   by_cases hk0:k=0
   .subst hk0
    go_wp2
    go_ret
    exact ⟨by rw [MH (by rw [<-hn1.out,<-hm1.out]) (λi=>hR.out.2 i (Nat.zero_le _))];rfl,hR.out.1⟩
   .obtain ⟨q, rfl⟩:∃q, k=q+1:=⟨k-1, by omega⟩
    obtain ⟨b,o,rfl,hb,hcell⟩:=hA.out (by rw [<-hn1.out];omega)
    replace hcell:=(hR.out.1.cell (p:=⟨b,o+q,none⟩) hb).trans (hcell q (by rw [<-hn1.out];omega))
    obtain ⟨b',o',rfl,hb',hcell'⟩:=hB.out (by rw [<-hm1.out];omega)
    replace hcell':=(hR.out.1.cell (p:=⟨b',o'+q,none⟩) hb').trans (hcell' q (by rw [<-hm1.out];omega))
    generalize hX:(Am x).getD q 0=X at *
    generalize hY:(Am y).getD q 0=Y at *
    replace hX:=Ac hX
    replace hY:=Ac hY
    have hq1:((q+1:Nat):Int)-1=q:=by omega
    rw [hq1]
    rcases Nat.lt_trichotomy X Y with hlt | heq | hgt
    .have hneq:decide ((X:Int)<Y)=true:=by simp; omega
     go_wp2
     go_quiet (fail)
     go_wp2
     go_ret
     exact ⟨by rw [MF (k:=q) (by rw [<-hn1.out,<-hm1.out]) (by rw [<-hn1.out];omega) (λi hi=>hR.out.2 i hi) (by rw [hX.out,hY.out];exact hlt)];rfl,hR.out.1.drewN _⟩
    .subst heq
     have hneq:decide ((X:Int)<X)=false:=by simp
     go_wp2
     go_quiet (fail)
     go_wp2
     go_quiet (fail)
     go_wp2
     refine ⟨⟨q,by omega,rfl,hR.out.1.drewN _,λi hi=>?_⟩,by simp [intOf]⟩
     rcases Nat.lt_or_ge q i with h1 | h1
     .exact hR.out.2 i h1
     .obtain rfl:i=q:=by omega
      rw [hX.out,hY.out]
    .have hneq:decide ((X:Int)<Y)=false:=by simp; omega
     have hneq2:decide ((Y:Int)<X)=true:=by simp;omega
     have hnlt:¬((X:Int)<Y):=by omega
     go_wp2
     go_quiet (fail)
     go_wp2
     go_quiet (fail)
     go_wp2
     go_ret
     exact ⟨by rw [MG (k:=q) (by rw [<-hn1.out,<-hm1.out]) (by rw [<-hn1.out];omega) (λi hi=>hR.out.2 i hi) (by rw [hX.out,hY.out];exact hgt)];rfl,(hR.out.1.drewN _).drewN _⟩
 .have hne:decide ((n:Int)<m)=false:=by simp; omega
  have hne2:decide ((m:Int)<n)=true:=by simp;omega
  go_enter Tryz.func75,Tryz.ntmps75
  go_wp2
  go_ret
  exact ⟨by rw [HP (by rw [<-hn1.out,<-hm1.out];exact hgt)];rfl,Ext.refl _⟩
theorem JC(va:Value)(la:List Nat)(d:Nat)(w:World)(ha:Words w va la)(hn:la.length<=4398046511104)(hd0:0<d)(hdB:d<4294967296) :
  Calls Tryz.prog 128 #[va,.int .u64 d] w λe w'=>∃v',e = .returned (.tuple #[v',.int .u64 (val la%d:Nat)])/\Words w' v' (Am (val la/d))/\Ext w w':=by
 obtain ⟨A,c,rfl,hc,hm',hx⟩:=ha.open_
 have hsa:=Ac ha.small
 clear ha
 have hA:=Ac hx
 clear hx
 obtain ⟨n,hn1⟩:∃n,n=la.length:=⟨_,rfl⟩
 rw [<-hn1] at hc hn ⊢
 replace hn1:=Ac hn1
 have hmk:=λW=>By n (by omega) .i64 .i64 W
 go_enter Tryz.func128,Tryz.ntmps128
 go_wp2
 go_loopw [7,8] (λt i wr=>∃(k r:Nat) (q:List Nat),k<=n/\i = .int .i64 ((k:Int)-1)/\t = .int .u64 r/\r<d/\Hid (DsRel w wr la q d n k r)) (λ_ i _=>(intOf i+1).toNat)
 case atStart => exact ⟨n, 0, List.replicate n 0, Nat.le_refl _, rfl, rfl, hd0, by simp, Bs _, Blk.new _ _ _, by
  have h1:la.drop n=[]:=List.drop_eq_nil_of_le (by rw [<-hn1.out];omega)
  rw [h1];simp [val],(Ext.refl _).alloc _⟩
 case round=>
  obtain ⟨k,r,q,hk,rfl,rfl,hr,hR⟩:=hrel
  by_cases hk0:k=0
  .subst hk0
   have hW:Hid (Words wr (.slice (some ⟨w.heap.size,0,none⟩) n n) q):=by
    have:=Bu (c:=n) hR.out.2.2.1 hR.out.2.1 (by rw [hR.out.1];omega) (by omega)
    rw [hR.out.1] at this
    exact this
   have hfin:Hid (val la/d=val q/\val la%d=r):=by
    have h1:=hR.out.2.2.2.1
    simp only [List.drop_zero] at h1
    rw [h1]
    constructor
    .rw [Nat.mul_comm,Nat.mul_add_div hd0,Nat.div_eq_of_lt hr,Nat.add_zero]
    .rw [Nat.mul_comm,Nat.mul_add_mod,Nat.mod_eq_of_lt hr]
   go_wp2_with (go_at_call 103;refine (DO _ _ _ hW.out).mono ?_;rintro e w' ⟨v',rfl,hv',hE⟩)
   go_ret2
   refine ⟨v',by rw [hfin.out.2];rfl,?_,hR.out.2.2.2.2.trans hE⟩
   rw [AM hR.out.2.1,<-hfin.out.1] at hv'
   exact hv'
  .obtain ⟨k, rfl⟩:∃q, k=q+1:=⟨k-1, by omega⟩
   obtain ⟨b,o,rfl,hb,hcell⟩:=hA.out (by rw [<-hn1.out];omega)
   replace hcell:=(hR.out.2.2.2.2.cell (p:=⟨b,o+k,none⟩) hb).trans (hcell k (by rw [<-hn1.out];omega))
   have hxB:=AD hsa.out k
   have hst:wr.cell? ⟨w.heap.size,k,none⟩=some (.int .u32 (q.getD k 0:Nat)):=by rw [hR.out.2.2.1.cell,Ch (by rw [hR.out.1];omega)]
   have hfz:=hR.out.2.2.1.frozen k
   generalize hx:la.getD k 0=x at *
   replace hx:=Ac hx
   unfold BB at hxB
   have hq1:((k+1:Nat):Int)-1=k:=by omega
   rw [hq1]
   have hfin:Hid (((r:Int)*4294967296+x)/d%4294967296=((r*4294967296+x)/d:Nat)/\((r:Int)*4294967296+x)%d=((r*4294967296+x)%d:Nat)):=SQ hr hxB hdB
   go_wp2
   refine ⟨⟨k,(r*4294967296+x)%d,_,by omega,rfl,by rw [hfin.out.2],Nat.mod_lt _ hd0,hR.out.step hk hn1.out.symm hx.out hd0 hr hdB hxB hfin.out.1⟩,by simp [intOf]⟩
theorem KK(v:Value)(l:List Nat)(w:World)(h:Words w v l)(hn:l.length<=2) :
  Calls Tryz.prog 105 #[v] w λe w'=>e = .returned (.int .u64 (val l:Nat))/\w=w':=by
 have h0:=AD h.small 0
 have h1:=AD h.small 1
 have hv:Hid (val l=l.getD 0 0+BB*l.getD 1 0):=by
  match l,hn with
  | [],_=>simp [val,Hid]
  | [a],_=>simp [val,Hid]
  | [a,b],_=>simp [val,Hid]
 replace h:=Ac h
 generalize hx:l.getD 0 0=x at *
 generalize hy:l.getD 1 0=y at *
 replace hx:=Ac hx
 replace hy:=Ac hy
 unfold BB at h0 h1
 go_enter Tryz.func105,Tryz.ntmps105
 go_wp2_with fail
 refine (Fg v l 1 y _ h.out hy.out).mono ?_
 rintro e w1 ⟨rfl,rfl⟩
 go_wp2_with fail
 refine (Fg v l 0 x _ h.out hx.out).mono ?_
 rintro e w1 ⟨rfl,rfl⟩
 go_wp2
 go_ret
 exact ⟨by rw [hv.out,Bb,show x+4294967296*y=y*4294967296+x by omega];rfl,rfl⟩
theorem Rw(a b:Nat)(w:World)(ha:a<18446744073709551616)(hb:b<18446744073709551616) :
  Calls Tryz.prog 104 #[.int .u64 a,.int .u64 b] w λe w'=>e = .returned (.int .u64 (Nat.gcd a b:Nat))/\w=w':=by
 go_enter Tryz.func104,Tryz.ntmps104
 go_wp2
 go_loop [0,1] (λx y=>∃p q:Nat,p<18446744073709551616/\q<18446744073709551616/\x = .int .u64 p/\y = .int .u64 q/\Hid (Nat.gcd p q=Nat.gcd a b)) (λ_ y=>(intOf y).toNat)
 case atStart=>exact ⟨a,b,ha,hb,rfl,rfl,rfl⟩
 case round=>
  obtain ⟨p,q,hp,hq,rfl,rfl,hg⟩:=hrel
  by_cases h0:q=0
  .subst h0
   go_wp2
   go_ret
   exact ⟨by rw [<-hg.out,Nat.gcd_zero_right];rfl,rfl⟩
  .have hq0:0<q:=by omega
   have hd:decide ((0:Int)<q)=true:=by simpa using hq0
   obtain ⟨r,hr⟩:∃r,r=p%q:=⟨_,rfl⟩
   have hrem:(p:Int)%(q:Int)=(r:Int):=by rw [hr];rfl
   have hlt:r<q:=by rw [hr];exact Nat.mod_lt _ hq0
   replace hr:=Ac hr
   go_wp2
   go_round
   case rel=>exact ⟨q,r,hq,by omega,rfl,by rw [<-hrem],by rw [hr.out,<-hg.out,Nat.gcd_comm p q,Nat.gcd_rec q p];exact Nat.gcd_comm _ _⟩
   case measure=>simp [intOf];omega
theorem Win.ext{w w':World}{b:Nat}{pre x post:List Nat}(h:Win w b pre x post)(he:Ext w w'):Win w' b pre x post:=Blk.ext h he
theorem Only.ext{b:Nat}{w w1 w2:World}(h:Only b w w1)(he:Ext w1 w2):Only b w w2:=⟨he.os.trans h.os,he.tape.trans h.tape,he.output.trans h.output,Nat.le_trans h.size he.size,λk hk hne=>(he.block (Nat.lt_of_lt_of_le hk h.size)).trans (h.block k hk hne)⟩
def Rx(w:World)(u v:List Nat)(e:Ending)(w':World):Prop:=∃q:Nat,e = .returned (.int .u64 q)/\q<BB/\val u/val v<=q/\q*val v<val u+val v/\Ext w w'
def A2O(w:World)(V1 U0 U1:Nat)(u v:List Nat)(q r:Value)(wx:World):Prop:=
 ∃qn rn:Nat,q = .int .u64 qn/\r = .int .u64 rn/\rn<4294967296/\qn<=8589934592/\Hid (qn*V1+rn=U1+BB*U0/\val u/val v<=qn)/\Hid (Ext w wx)
set_option maxRecDepth 1000000 in
theorem Td(b bv ov n cu cv:Nat)(pre post u v:List Nat)(w:World)(hW:Win w b pre u post)(hu:u.length=n+1)(hv:v.length=n)(hn2:2<=n)(hn:n<=4398046511104)(su:Bn u)(sv:Bn v)
  (hvc:∀i,i<n->w.cell? ⟨bv,ov+i,none⟩=some (.int .u32 (v.getD i 0:Nat))) (hcu:n+1<=cu) (hcv:n<=cv) (htop:2147483648<=v.getD (n-1) 0) (hlt:val u<BB*val v) :
  Calls Tryz.prog 129 #[.slice (some ⟨b,pre.length,none⟩) (n+1) cu,.slice (some ⟨bv,ov,none⟩) n cv] w (Rx w u v):=by
 obtain ⟨m,rfl⟩:∃m,n=m+2:=⟨n-2,by omega⟩
 have hK:=Ac (A1L hu hv su sv (by show 0<v.getD (m+1) 0;have:v.getD (m+2-1) 0=v.getD (m+1) 0:=rfl;omega) hlt)
 have hc0:=hW.cell (k:=m+2) (by omega)
 have hc1:=hW.cell (k:=m+1) (by omega)
 have hc2:=hW.cell (k:=m) (by omega)
 have hd1:=hvc (m+1) (by omega)
 have hd2:=hvc m (by omega)
 have hu0:=AD su (m+2)
 have hu1:=AD su (m+1)
 have hu2:=AD su m
 have hv1:=AD sv (m+1)
 have hv2:=AD sv m
 have htop':2147483648<=v.getD (m+1) 0:=htop
 generalize hU0:u.getD (m+2) 0=U0 at *
 generalize hU1:u.getD (m+1) 0=U1 at *
 generalize hU2:u.getD m 0=U2 at *
 generalize hV1:v.getD (m+1) 0=V1 at *
 generalize hV2:v.getD m 0=V2 at *
 replace hU0:=Ac hU0
 replace hU1:=Ac hU1
 replace hU2:=Ac hU2
 replace hV1:=Ac hV1
 replace hV2:=Ac hV2
 unfold BB at hu0 hu1 hu2 hv1 hv2
 replace hW:=Ac hW
 replace hu:=Ac hu
 replace hv:=Ac hv
 replace su:=Ac su
 replace sv:=Ac sv
 replace hvc:=Ac hvc
 replace hlt:=Ac hlt
 clear htop
 generalize hP:pre.length=P at *
 replace hP:=Ac hP
 have hm:m<=4398046511102:=by omega
 clear hn hn2
 go_enter Tryz.func129,Tryz.ntmps129
 go_wp2
 go_quiet (fail)
 have hT:Hid (((U0:Int)*4294967296+U1)/V1=((U1+BB*U0)/V1:Nat)/\((U0:Int)*4294967296+U1)%V1=((U1+BB*U0)%V1:Nat)):=by
  have e:(U0:Int)*4294967296+U1=((U1+BB*U0:Nat):Int):=by rw [Bb];omega
  rw [e]
  exact ⟨(Int.natCast_ediv _ _).symm,(Int.natCast_emod _ _).symm⟩
 go_upto_block 0 with (fail)
 rw [hT.out.1,hT.out.2]
 go_cut [7,8] (λq r wx=>∃qn:Nat,q = .int .u64 qn/\qn<4294967296/\Hid (val u/val v<=qn/\qn*val v<val u+val v)/\Hid (Ext w wx))
 case first=>
  go_wp2
  go_loopw [7,8] (λq r wx=>A2O w V1 U0 U1 u v q r wx) (λq _ _=>(intOf q).toNat)
  case atStart=>
   have hpos:0<V1:=by omega
   refine ⟨_,_,rfl,rfl,?_,?_,⟨?_,?_⟩,?_⟩
   .have:=Nat.mod_lt (U1+BB*U0) hpos;omega
   .refine Nat.le_of_lt (Nat.div_lt_of_lt_mul ?_)
    have:2147483648*8589934592<=V1*8589934592:=Nat.mul_le_mul_right _ htop'
    rw [Bb];omega
   .rw [Nat.mul_comm];exact Nat.div_add_mod _ _
   .exact hK.out.start
   .exact (Ext.refl _).drewN _
  case round=>
   obtain ⟨q,r,rfl,rfl,hr,hq,hR,hM⟩:=hrel
   have g2:=hM.out.cellv hc2
   have g1:wr.cell? ⟨bv,ov+(m+1),none⟩=some (.int .u32 (V1:Nat)):=hM.out.cellv hd1
   have g3:wr.cell? ⟨bv,ov+m,none⟩=some (.int .u32 (V2:Nat)):=hM.out.cellv hd2
   clear hc0 hc1 hc2 hd1 hd2
   have hdown:=Ac (λht=>hK.out.down hR.out.1 hR.out.2 (q:=q) (r:=r) ht)
   have hdone:Hid (∀q' r',q'*V1+r'=U1+BB*U0->val u/val v<=q'->q'<BB->q'*V2<=r'*BB+U2->val u/val v<=q'/\q'*val v<val u+val v):=λq' r' h1 h2 h3 h4=>⟨h2,hK.out.after h1 h3 h4⟩
   have hgreat:Hid (∀q' r',q'*V1+r'=U1+BB*U0->BB<=r'->q'<BB/\q'*V2<=r'*BB+U2):=λq' r' h1 h2=>hK.out.great h1 h2
   by_cases hqB:4294967296<=q
   .have hdec:decide ((4294967296:Int)<=q)=true:=by simp; omega
    replace hqB:=Ac hqB
    replace hq:=Ac hq
    have hd:=Ac (hdown.out (.inl (by rw [Bb];exact hqB.out)))
    by_cases hrB:4294967296<=r+V1
    .have hrI:(4294967296:Int)<=(r:Int)+V1:=by omega
     replace hrB:=Ac hrB
     go_wp2
     go_quiet (fail)
     have hq1:(1:Int)<=q:=by have:=hqB.out;omega
     have hq2:(q:Int)<=8589934592:=by have:=hq.out;omega
     clear hdec
     go_wp2
     go_meet
     case rel=>
      have h1:=hgreat.out _ _ hd.out.2.2 (by rw [Bb];exact hrB.out)
      exact ⟨q-1,by go_num,by have:=h1.1;rw [Bb] at this;exact this,hdone.out _ _ hd.out.2.2 hd.out.2.1 h1.1 h1.2,hM.out.drewN _⟩
    .have hrI:decide ((4294967296:Int)<=(r:Int)+V1)=false:=by simp; omega
     replace hrB:=Ac hrB
     go_wp2
     go_quiet (fail)
     have hq1:(1:Int)<=q:=by have:=hqB.out;omega
     have hq2:(q:Int)<=8589934592:=by have:=hq.out;omega
     clear hdec
     go_wp2
     exact ⟨⟨q-1,r+V1,by go_num,by go_num,by have:=hrB.out;omega,by have:=hq.out;omega,⟨hd.out.2.2,hd.out.2.1⟩,hM.out.drewN _⟩,by simp [intOf];omega⟩
   .have hdec:decide ((4294967296:Int)<=q)=false:=by simp; omega
    have hqI:q<4294967296:=by omega
    replace hqB:=Ac hqB
    replace hq:=Ac hq
    have hp:(q:Int)*V2<=18446744065119617025:=by have:=DK hqI hv2;omega
    have hp0:(0:Int)<=(q:Int)*V2:=Int.mul_nonneg (by omega) (by omega)
    by_cases hT2:r*4294967296+U2<q*V2
    .have hTd:decide ((r:Int)*4294967296+U2<(q:Int)*V2)=true:=by simp; omega
     have hd:=Ac (hdown.out (.inr (by rw [Bb];exact hT2)))
     replace hT2:=Ac hT2
     have hq1:(1:Int)<=q:=by have:=hd.out.1;omega
     by_cases hrB:4294967296<=r+V1
     .have hrI:decide ((4294967296:Int)<=(r:Int)+V1)=true:=by simp; omega
      replace hrB:=Ac hrB
      go_wp2
      go_quiet (fail)
      clear hp hp0 hTd hdec
      go_wp2
      go_meet
      case rel=>
       have h1:=hgreat.out _ _ hd.out.2.2 (by rw [Bb];exact hrB.out)
       exact ⟨q-1,by go_num,by have:=h1.1;rw [Bb] at this;exact this,hdone.out _ _ hd.out.2.2 hd.out.2.1 h1.1 h1.2,hM.out.drewN _⟩
     .have hrI:decide ((4294967296:Int)<=(r:Int)+V1)=false:=by simp; omega
      replace hrB:=Ac hrB
      go_wp2
      go_quiet (fail)
      clear hp hp0 hTd hdec
      go_wp2
      exact ⟨⟨q-1,r+V1,by go_num,by go_num,by have:=hrB.out;omega,by have:=hq.out;omega,⟨hd.out.2.2,hd.out.2.1⟩,hM.out.drewN _⟩,by simp [intOf];omega⟩
    .have hTd:decide ((r:Int)*4294967296+U2<(q:Int)*V2)=false:=by simp; omega
     replace hT2:=Ac hT2
     go_wp2
     go_quiet (fail)
     go_wp2
     go_meet
     case rel=>exact ⟨q,rfl,hqI,hdone.out _ _ hR.out.1 hR.out.2 (by rw [Bb];exact hqI) (by have:=hT2.out;rw [Bb];omega),hM.out.drewN _⟩
 case rest=>
  obtain ⟨q,rfl,hq,hR,hM⟩:=hcut
  clear hc0 hc1 hc2 hd1 hd2
  go_wp2
  go_ret
  exact ⟨q,rfl,by rw [Bb];exact hq,hR.out.1,hR.out.2,hM.out⟩
def LsRel(w wr:World)(b:Nat)(pre post u v x:List Nat)(n q k cy bw:Nat):Prop:=
 x.length=n/\Bn x/\Win wr b pre x post/\Only b w wr/\val (x.take k)+q*val (v.take k)=val (u.take k)+BB^k*(cy+bw)/\(∀i,k<=i->x.getD i 0=u.getD i 0)/\(v.length<k->cy=0)
theorem LsRel.step{w wr:World}{b:Nat}{pre post u v x:List Nat}{n q k cy bw y z:Nat}(h:LsRel w wr b pre post u v x n q k cy bw)(hk:k<n)(hy:v.getD k 0=y)(hz:x.getD k 0=z)(hzB:z<BB)(hb:bw<=1)(hcB:cy<BB){e:Int}
  (he:e=(z+BB*(if z<(q*y+cy)%BB+bw then 1 else 0)-(q*y+cy)%BB-bw:Nat)) :
  LsRel w (wr.setCell ⟨b,pre.length+k,none⟩ (.int .u32 e)) b pre post u v (x.set k (z+BB*(if z<(q*y+cy)%BB+bw then 1 else 0)-(q*y+cy)%BB-bw)) n q (k+1) ((q*y+cy)/BB) (if z<(q*y+cy)%BB+bw then 1 else 0):=by
 obtain ⟨h1,h2,h3,h4,h5,h6,h7⟩:=h
 have hm:=Nat.mod_lt (q*y+cy) BP
 have hub:z+BB*(if z<(q*y+cy)%BB+bw then 1 else 0)-(q*y+cy)%BB-bw<BB:=by split<;>omega
 have hue:z+BB*(if z<(q*y+cy)%BB+bw then 1 else 0)-(q*y+cy)%BB-bw+((q*y+cy)%BB+bw)=z+BB*(if z<(q*y+cy)%BB+bw then 1 else 0):=by split<;>omega
 generalize (if z<(q*y+cy)%BB+bw then 1 else 0:Nat)=c1 at *
 generalize hX:z+BB*c1-(q*y+cy)%BB-bw=X at *
 refine ⟨by simpa using h1,BX h2 k hub,by rw [he];exact h3.set (by omega) X,h4.set _ _,?_,λi hi=>?_,λhl=>?_⟩
 .rw [AK, Cb, BC (by omega), AK u, AK v, hy, <-h6 k (Nat.le_refl _), hz]
  have e2:=Nat.mod_add_div (q*y+cy) BB
  have e3:BB^(k+1)*((q*y+cy)/BB+c1)+BB^k*z=BB^k*X+q*(BB^k*y)+BB^k*(cy+bw):=by
   have e4:BB*((q*y+cy)/BB+c1)+z=X+q*y+(cy+bw):=by rw [Nat.mul_add];omega
   rw [Nat.pow_succ,Nat.mul_assoc,<-Nat.mul_add,e4,Nat.mul_add,Nat.mul_add,Nat.mul_left_comm q]
  rw [Nat.mul_add q]
  omega
 .rw [<-h6 i (by omega)]
  have:k≠i:=by omega
  simp [List.getElem?_set_ne this]
 .have hy0:y=0:=by rw [<-hy]; simp [show v.length<=k by omega]
  rw [hy0,Nat.mul_zero,Nat.zero_add]
  exact Nat.div_eq_of_lt hcB
theorem A2b{q y c z d:Nat}(hz:z<4294967296)(hd:d<=1) :
  (4294967296+(z:Int)-((q:Int)*y+c)%4294967296-d)%4294967296=((z+BB*(if z<(q*y+c)%BB+d then 1 else 0)-(q*y+c)%BB-d:Nat):Int) /\
  1-(4294967296+(z:Int)-((q:Int)*y+c)%4294967296-d)/4294967296=((if z<(q*y+c)%BB+d then 1 else 0:Nat):Int) /\
  ((q:Int)*y+c)/4294967296=(((q*y+c)/BB:Nat):Int)/\0<=4294967296+(z:Int)-((q:Int)*y+c)%4294967296-d/\4294967296+(z:Int)-((q:Int)*y+c)%4294967296-d<=8589934591:=by
 have e:(q:Int)*y+c=((q*y+c:Nat):Int):=by simp [Int.natCast_add,Int.natCast_mul]
 have hm:=Nat.mod_lt (q*y+c) BP
 have e2:((q:Int)*y+c)%4294967296=(((q*y+c)%BB:Nat):Int):=by rw [e,Bb,Int.natCast_emod];rfl
 have e3:((q:Int)*y+c)/4294967296=(((q*y+c)/BB:Nat):Int):=by rw [e,Bb,Int.natCast_ediv];rfl
 rw [e2,e3]
 generalize (q*y+c)%BB=p at *
 rw [Bb] at hm ⊢
 refine ⟨?_,?_,rfl,by omega,by omega⟩<;>(split<;>omega)
def A18(w:World)(b:Nat)(pre post u v:List Nat)(q:Nat)(e:Ending)(w':World):Prop:=
 ∃x:List Nat,e = .returned (.bool (decide (val u<q*val v)))/\x.length=u.length/\Bn x/\Win w' b pre x post/\Only b w w'/\val x+q*val v=val u+BB^u.length*(if val u<q*val v then 1 else 0)
theorem LsRel.close{w wr:World}{b:Nat}{pre post u v x:List Nat}{n q cy bw:Nat}(h:LsRel w wr b pre post u v x n q n cy bw)(hu:u.length=n)(hv:v.length<n)(hb:bw<=1):bw=(if val u<q*val v then 1 else 0)/\val x+q*val v=val u+BB^n*(if val u<q*val v then 1 else 0):=by
 obtain ⟨h1,h2,h3,h4,h5,h6,h7⟩:=h
 rw [List.take_of_length_le (by omega),List.take_of_length_le (by omega),List.take_of_length_le (by omega),h7 hv,Nat.zero_add] at h5
 have hxl:=CI h2
 rw [h1] at hxl
 have key:bw=(if val u<q*val v then 1 else 0):=by
  rcases Nat.eq_zero_or_pos bw with h0 | h0
  .subst h0;rw [if_neg (by omega)]
  .have:bw=1:=by omega
   subst this;rw [if_pos (by omega)]
 exact ⟨key,by rw [<-key];exact h5⟩
theorem Rv(b n cu:Nat)(vv:Value)(pre post u v:List Nat)(q P:Nat)(w:World)(hP:pre.length=P)(hW:Win w b pre u post)(hu:u.length=n)(hv:v.length<n)(hn:n<=4398046511105)(su:Bn u)(sv:Bn v)
  (hVo:∀wr,Only b w wr->Words wr vv v) (hcu:n<=cu) (hq:q<BB) :
  Calls Tryz.prog 130 #[.slice (some ⟨b,P,none⟩) n cu,vv,.int .u64 q] w (A18 w b pre post u v q):=by
 replace hW:=Ac hW
 replace hu:=Ac hu
 replace su:=Ac su
 replace sv:=Ac sv
 replace hVo:=Ac hVo
 replace hP:=Ac hP
 replace hv:=Ac hv
 unfold BB at hq
 go_enter Tryz.func130,Tryz.ntmps130
 go_wp2
 go_loopw [7,8,9] (λcy bw i wr=>∃(k c d:Nat) (x:List Nat),k<=n/\i = .int .i64 k/\cy = .int .u64 c/\bw = .int .u64 d/\c<4294967296/\d<=1/\Hid (LsRel w wr b pre post u v x n q k c d)) (λ_ _ i _=>n-(intOf i).toNat)
 case atStart=>exact ⟨0,0,0,u,Nat.zero_le _,rfl,rfl,rfl,by omega,by omega,hu.out,su.out,hW.out,Only.refl _ _,by simp [val],λ_ _=>rfl,λh=>by omega⟩
 case round=>
  obtain ⟨k,c,d,x,hk,rfl,rfl,rfl,hcB,hdB,hS⟩:=hrel
  by_cases hlt:k<n
  .have hdk:decide ((k:Int)<n)=true:=by simpa using hlt
   have g2:wr.cell? ⟨b,P+k,none⟩=some (.int .u32 (x.getD k 0:Nat)):=by
    have:=hS.out.2.2.1.cell (k:=k) (by rw [hS.out.1];omega)
    rw [hP.out] at this
    exact this
   have g3:=hS.out.2.2.1.frozen (P+k)
   have hyB:=AD sv.out k
   have hzB:=AD hS.out.2.1 k
   generalize hy:v.getD k 0=y at *
   generalize hz:x.getD k 0=z at *
   replace hy:=Ac hy
   replace hz:=Ac hz
   unfold BB at hyB hzB
   have hp:(q:Int)*y<=18446744065119617025:=by have:=DK hq hyB;omega
   have hp0:(0:Int)<=(q:Int)*y:=Int.mul_nonneg (by omega) (by omega)
   have hnum:=Ac (A2b (q:=q) (y:=y) (c:=c) (z:=z) (d:=d) hzB hdB)
   have hcy:Hid ((q*y+c)/BB<4294967296):=by
    have:=DK hq hyB
    show _/BB<4294967296
    rw [Bb];omega
   have hst:=Ac (hS.out.step hlt hy.out hz.out (by rw [Bb];exact hzB) hdB (cy:=c) (by rw [Bb];exact hcB) rfl)
   rw [hP.out] at hst
   go_wp2_with fail
   refine (Fg vv v k y _ (hVo.out _ hS.out.2.2.2.1) hy.out).mono ?_
   rintro e w1 ⟨rfl,rfl⟩
   clear hS
   obtain ⟨T,hT⟩:∃T:Int,T=(q:Int)*y+c:=⟨_,rfl⟩
   have hT1:T<=18446744073709551615:=by omega
   have hT0:0<=T:=by omega
   rw [<-hT] at hnum
   replace hT:=Ac hT
   have hN0:0<=4294967296+(z:Int)-T%4294967296-d:=hnum.out.2.2.2.1
   have hN1:4294967296+(z:Int)-T%4294967296-d<=8589934591:=hnum.out.2.2.2.2
   go_upto_region 7 with (fail)
   rw [<-hT.out]
   clear hp hp0
   go_wp2
   rw [hnum.out.1,hnum.out.2.1,hnum.out.2.2.1]
   exact ⟨⟨k+1,_,_,_,hlt,by simp,rfl,rfl,hcy.out,by split<;>omega,hst.out⟩,by simp [intOf];omega⟩
  .obtain rfl:k=n:=by omega
   have hdk:decide ((k:Int)<k)=false:=by simp
   obtain ⟨h1,h2⟩:=hS.out.close hu.out hv.out hdB
   replace h1:=Ac h1
   replace h2:=Ac h2
   rcases (show d=0\/d=1 by omega) with rfl | rfl
   .go_wp2
    go_ret
    have hnl:¬val u<q*val v:=λh=>by have:=h1.out;rw [if_pos h] at this;omega
    exact ⟨x,by simp [hnl],hS.out.1.trans hu.out.symm,hS.out.2.1,hS.out.2.2.1,hS.out.2.2.2.1,by rw [hu.out];exact h2.out⟩
   .go_wp2
    go_ret
    have hnl:val u<q*val v:=by
     rcases Nat.lt_or_ge (val u) (q*val v) with h | h
     .exact h
     .have:=h1.out;rw [if_neg (by omega)] at this;omega
    exact ⟨x,by simp [hnl],hS.out.1.trans hu.out.symm,hS.out.2.1,hS.out.2.2.1,hS.out.2.2.2.1,by rw [hu.out];exact h2.out⟩
def RsRel(w wr:World)(b:Nat)(pre post x0 v x:List Nat)(n k cc:Nat):Prop:=
 x.length=n/\Bn x/\Win wr b pre x post/\Only b w wr/\val (x.take k)+BB^k*cc=val (x0.take k)+val (v.take k)/\∀i,k<=i->x.getD i 0=x0.getD i 0
theorem RsRel.step{w wr:World}{b:Nat}{pre post x0 v x:List Nat}{n k cc y z:Nat}(h:RsRel w wr b pre post x0 v x n k cc)(hk:k<n)(hy:v.getD k 0=y)(hz:x.getD k 0=z)(hyB:y<BB)(hzB:z<BB)(hc:cc<=1){e:Int}(he:e=((z+y+cc)%BB:Nat)) :
  RsRel w (wr.setCell ⟨b,pre.length+k,none⟩ (.int .u32 e)) b pre post x0 v (x.set k ((z+y+cc)%BB)) n (k+1) ((z+y+cc)/BB)/\(z+y+cc)/BB<=1:=by
 obtain ⟨h1,h2,h3,h4,h5,h6⟩:=h
 refine ⟨⟨by simpa using h1,BX h2 k (Nat.mod_lt _ BP),by rw [he];exact h3.set (by omega) _,h4.set _ _,?_,λi hi=>?_⟩,?_⟩
 .rw [AK, Cb, BC (by omega), AK x0, AK v, hy, <-h6 k (Nat.le_refl _), hz]
  have e:=Nat.mod_add_div (z+y+cc) BB
  have e2:BB^k*((z+y+cc)%BB)+BB^(k+1)*((z+y+cc)/BB)=BB^k*(z+y+cc):=by
   rw [Nat.pow_succ,Nat.mul_assoc,<-Nat.mul_add,e]
  rw [Nat.mul_add,Nat.mul_add] at e2
  omega
 .rw [<-h6 i (by omega)]
  have:k≠i:=by omega
  simp [List.getElem?_set_ne this]
 .have:=Nat.div_lt_of_lt_mul (show z+y+cc<BB*2 by omega)
  omega
def A16(w:World)(b:Nat)(pre post u v:List Nat)(e:Ending)(w':World):Prop:=
 ∃(x:List Nat) (c:Nat),e = .returned (.tuple #[])/\x.length=u.length/\Bn x/\Win w' b pre x post/\Only b w w'/\val x+BB^u.length*c=val u+val v/\c<=1
theorem Py(b n cu:Nat)(vv:Value)(pre post u v:List Nat)(P:Nat)(w:World)(hP:pre.length=P)(hW:Win w b pre u post)(hu:u.length=n)(hv:v.length<=n)(hn:n<=4398046511105)(su:Bn u)(sv:Bn v)
  (hVo:∀wr,Only b w wr->Words wr vv v) (hcu:n<=cu) :
  Calls Tryz.prog 131 #[.slice (some ⟨b,P,none⟩) n cu,vv] w (A16 w b pre post u v):=by
 replace hW:=Ac hW
 replace hu:=Ac hu
 replace su:=Ac su
 replace sv:=Ac sv
 replace hVo:=Ac hVo
 replace hP:=Ac hP
 replace hv:=Ac hv
 go_enter Tryz.func131,Tryz.ntmps131
 go_wp2
 go_loopw [4,5] (λcy i wr=>∃(k c:Nat) (x:List Nat),k<=n/\i = .int .i64 k/\cy = .int .u64 c/\c<=1/\Hid (RsRel w wr b pre post u v x n k c)) (λ_ i _=>n-(intOf i).toNat)
 case atStart=>exact ⟨0,0,u,Nat.zero_le _,rfl,rfl,by omega,hu.out,su.out,hW.out,Only.refl _ _,by simp [val],λ_ _=>rfl⟩
 case round=>
  obtain ⟨k,c,x,hk,rfl,rfl,hcB,hS⟩:=hrel
  by_cases hlt:k<n
  .have hdk:decide ((k:Int)<n)=true:=by simpa using hlt
   have g2:wr.cell? ⟨b,P+k,none⟩=some (.int .u32 (x.getD k 0:Nat)):=by
    have:=hS.out.2.2.1.cell (k:=k) (by rw [hS.out.1];omega)
    rw [hP.out] at this
    exact this
   have hyB:=AD sv.out k
   have hzB:=AD hS.out.2.1 k
   generalize hy:v.getD k 0=y at *
   generalize hz:x.getD k 0=z at *
   replace hy:=Ac hy
   replace hz:=Ac hz
   unfold BB at hyB hzB
   have hVw:=Ac (hVo.out _ hS.out.2.2.2.1)
   have hi:¬n<=k:=by omega
   have hcv:Hid (IntKind.u64.wrap (z:Int)=z):=Ac (IntWalk.u64_in _ (by omega))
   have hs1:Hid (IntKind.u64.wrap ((z:Int)+y)=(z:Int)+y):=Ac (IntWalk.u64_in _ (by omega))
   have hs2:Hid (IntKind.u64.wrap ((z:Int)+y+c)=(z:Int)+y+c):=Ac (IntWalk.u64_in _ (by omega))
   go_upto_region 4 with (fail)
   refine wp_region_v (by kernel_rfl) [[], [], [(13, 0), (14, 1)], [(15, 2)], [(16, 3)], [], [], [(18, 5), (19, 6)], [(17, 4), (20, 7)], [], [(21, 8), (22, 9)]] [[], [], [0, 1], [0, 1, 2], [0, 1, 2, 3], [], [], [5, 6], [0, 1, 2, 3, 4, 5, 6, 7], [], [0, 1, 2, 3, 4, 5, 6, 7, 8, 9]]
    [λv _=>v = .slice (some ⟨b,P,none⟩) n cu,λv _=>v = .int .i64 (k:Int),λv _=>v = .pointer (some ⟨b,P+k,none⟩),λv _=>v = .int .u32 (z:Int),λv _=>v = .int .u64 (z:Int),λv _=>v=vv,λv _=>v = .int .i64 (k:Int),λv _=>v = .int .u64 (y:Int),λv _=>v = .int .u64 ((z:Int)+y),λv _=>v = .int .u64 (c:Int),λv _=>v = .int .u64 ((z:Int)+y+c)]
    rfl (by kernel_rfl) (by kernel_rfl) ?stab ?steps ?fin
   case stab=>exact .cons (Stab.eq _) (.cons (Stab.eq _) (.cons (Stab.eq _) (.cons (Stab.eq _) (.cons (Stab.eq _) (.cons (Stab.eq _) (.cons (Stab.eq _) (.cons (Stab.eq _) (.cons (Stab.eq _) (.cons (Stab.eq _) (.cons (Stab.eq _) .nil))))))))))
   case steps=>
    refine .cons ?s0 (.cons ?s1 (.cons ?s2 (.cons ?s3 (.cons ?s4 (.cons ?s5 (.cons ?s6 (.cons ?s7 (.cons ?s8 (.cons ?s9 (.cons ?s10 .nil))))))))))
    case s0=>
     intro w' ev hE hk ha hc hf
     have e0:ev (.tmp 0) = .slice (some ⟨b,P,none⟩) n cu:=ha 0 (by decide)
     exact Ag (by simp [execOp,e0,go_sem]) rfl
    case s1=>
     intro w' ev hE hk ha hc hf
     have e5:ev (.tmp 5) = .int .i64 (k:Int):=ha 5 (by decide)
     exact Ag (by simp [execOp,e5,go_sem]) rfl
    case s2=>
     intro w' ev hE hk ha hc hf
     have e13:ev (.tmp 13) = .slice (some ⟨b,P,none⟩) n cu:=hk.1 _ rfl
     have e14:ev (.tmp 14) = .int .i64 (k:Int):=hk.2.1 _ rfl
     exact Ag (by simp [execOp,e13,e14,hi,go_sem]) rfl
    case s3=>
     intro w' ev hE hk ha hc hf
     have e15:ev (.tmp 15) = .pointer (some ⟨b,P+k,none⟩):=hk.1 _ rfl
     have c0:w'.cell? ⟨b,P+k,none⟩=some (.int .u32 (z:Int)):=hE.cellv g2
     exact Ag (by simp [execOp,e15,c0,go_sem]) rfl
    case s4=>
     intro w' ev hE hk ha hc hf
     have e16:ev (.tmp 16) = .int .u32 (z:Int):=hk.1 _ rfl
     exact Ag (by simp [execOp,e16,hcv.out,go_sem]) rfl
    case s5=>
     intro w' ev hE hk ha hc hf
     have e1:ev (.tmp 1)=vv:=ha 1 (by decide)
     exact Ag (by simp [execOp,e1,go_sem]) rfl
    case s6=>
     intro w' ev hE hk ha hc hf
     have e5:ev (.tmp 5) = .int .i64 (k:Int):=ha 5 (by decide)
     exact Ag (by simp [execOp,e5,go_sem]) rfl
    case s7=>
     intro w' ev hE hk ha hc hf
     have e18:ev (.tmp 18)=vv:=hk.1 _ rfl
     have e19:ev (.tmp 19) = .int .i64 (k:Int):=hk.2.1 _ rfl
     refine Aw (by simp [execOp,resolve,invoke,hf,e18,e19,go_sem]) (Fg _ v k y _ (hVw.out.ext ((Ext.refl _).drew.trans hE)) hy.out) ?_
     rintro e w1 ⟨rfl,rfl⟩
     exact ⟨_,rfl,Ext.refl _,rfl⟩
    case s8=>
     intro w' ev hE hk ha hc hf
     have e17:ev (.tmp 17) = .int .u64 (z:Int):=hk.1 _ rfl
     have e20:ev (.tmp 20) = .int .u64 (y:Int):=hk.2.1 _ rfl
     exact Ag (by simp [execOp,e17,e20,hs1.out,go_sem]) rfl
    case s9=>
     intro w' ev hE hk ha hc hf
     have e4:ev (.tmp 4) = .int .u64 (c:Int):=ha 4 (by decide)
     exact Ag (by simp [execOp,e4,go_sem]) rfl
    case s10=>
     intro w' ev hE hk ha hc hf
     have e21:ev (.tmp 21) = .int .u64 ((z:Int)+y):=hk.1 _ rfl
     have e22:ev (.tmp 22) = .int .u64 (c:Int):=hk.2.1 _ rfl
     exact Ag (by simp [execOp,e21,e22,hs2.out,go_sem]) rfl
   case fin=>
    intro gf w' hE hF
    have e10:=hF 10 _ rfl
    simp only [List.length_cons,List.length_nil,Nat.reduceAdd,List.drop_succ_cons,List.drop_zero,List.take_succ_cons,List.take_zero,CM,Act.put,List.setIfInBounds_toArray,List.set_cons_succ,List.set_cons_zero,e10]
    replace hE:=(Ext.refl wr).drew.trans hE
    have hS':RsRel w w' b pre post u v x n k c:=⟨hS.out.1,hS.out.2.1,hS.out.2.2.1.ext hE,hS.out.2.2.2.1.ext hE,hS.out.2.2.2.2.1,hS.out.2.2.2.2.2⟩
    have g2':=hE.cellv g2
    have g3:=hS'.2.2.1.frozen (P+k)
    have hst:=Ac (hS'.step hlt hy.out hz.out (by rw [Bb];exact hyB) (by rw [Bb];exact hzB) hcB (e:=((z:Int)+y+c)%4294967296) (by rw [Bb];omega))
    rw [hP.out] at hst
    clear hF e10 hE hS hS' g2 hVw hs1 hs2 hcv
    go_wp2
    exact ⟨⟨k+1,(z+y+c)/BB,_,hlt,by simp,by rw [Bb];congr 1,hst.out.2,hst.out.1⟩,by simp [intOf];omega⟩
  .obtain rfl:k=n:=by omega
   have hdk:decide ((k:Int)<k)=false:=by simp
   have h5:=hS.out.2.2.2.2.1
   rw [List.take_of_length_le (by rw [hS.out.1];omega),List.take_of_length_le (by rw [hu.out];omega),List.take_of_length_le hv.out] at h5
   replace h5:=Ac h5
   go_wp2
   refine bodyPost_ret (v:=.tuple #[]) (by simp [results,Tryz.results131,go_sem]) rfl ?_
   exact ⟨x,c,rfl,hS.out.1.trans hu.out.symm,hS.out.2.1,hS.out.2.2.1,hS.out.2.2.2.1,by rw [hu.out];exact h5.out,hcB⟩
end Go.Proofs.YtnbfnoebjjdmnaaGreat
