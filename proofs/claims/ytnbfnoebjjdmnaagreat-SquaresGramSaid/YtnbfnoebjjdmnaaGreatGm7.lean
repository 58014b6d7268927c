/- Part 7 of the proof of squaresGram_holds. No condition. -/
import Derived.Deep.LoopGhost
import Derived.Test.YtnbfnoebjjdmnaaGreatGm5
import Derived.Test.YtnbfnoebjjdmnaaGreatGm6
set_option linter.unusedSimpArgs false
set_option linter.unusedVariables false
set_option maxRecDepth 100000
set_option maxHeartbeats 2000000
namespace Go.Proofs.YtnbfnoebjjdmnaaGreat
open Go.RowKit
theorem HQ:∀(f x:Nat),x<2^f->x<2^(Lib.bitLenAux f x)/\(x≠0->2^(Lib.bitLenAux f x)<=2*x)
 | 0,x,h=>by
  have:x=0:=by simpa using h
  subst this
  exact ⟨by simp [Lib.bitLenAux],λh=>absurd rfl h⟩
 | f+1,x,h=>by
  unfold Lib.bitLenAux
  by_cases hx:x=0
  .subst hx;exact ⟨by simp,λh=>absurd rfl h⟩
  .rw [if_neg hx]
   obtain ⟨h1,h2⟩:=HQ f (x/2) (by rw [Nat.pow_succ] at h;omega)
   have e:2^(1+Lib.bitLenAux f (x/2))=2*2^(Lib.bitLenAux f (x/2)):=by rw [Nat.pow_add]
   refine ⟨by rw [e];omega,λ_=>?_⟩
   rw [e]
   by_cases h0:x/2=0
   .have hx1:x=1:=by omega
    subst hx1
    have:Lib.bitLenAux f (1/2)=0:=by
     show Lib.bitLenAux f 0=0
     cases f<;>simp [Lib.bitLenAux]
    rw [this];omega
   .have:=h2 h0;omega
theorem VO{t:Nat}(h0:0<t)(h1:t<4294967296):∃s:Nat,(32:Int)-(Lib.bitLen t:Int)=s/\s<32/\2147483648<=t*2^s/\(t+1)*2^s<=4294967296:=by
 have hs:=HQ 64 t (by omega)
 have hb:Lib.bitLen t=Lib.bitLenAux 64 t:=rfl
 rw [<-hb] at hs
 generalize Lib.bitLen t=k at hs
 obtain ⟨h2,h3⟩:=hs
 have h3:=h3 (by omega)
 have hk32:k<=32:=by
  rcases Nat.lt_or_ge 32 k with h | h
  .have:2^33<=2^k:=Nat.pow_le_pow_right (by omega) h
   have e:(2:Nat)^33=8589934592:=by decide
   omega
  .exact h
 have hk1:1<=k:=by
  rcases Nat.eq_zero_or_pos k with h | h
  .subst h;simp at h2;omega
  .exact h
 refine ⟨32-k,by omega,by omega,?_,?_⟩
 .have h4:2^k*2^(32-k)=4294967296:=by rw [<-Nat.pow_add, show k+(32-k)=32 by omega]
  have h5:2^k*2^(32-k)<=2*t*2^(32-k):=Nat.mul_le_mul_right _ h3
  rw [h4,Nat.mul_assoc] at h5
  omega
 .have h4:2^k*2^(32-k)=4294967296:=by rw [<-Nat.pow_add, show k+(32-k)=32 by omega]
  have h5:(t+1)*2^(32-k)<=2^k*2^(32-k):=Nat.mul_le_mul_right _ h2
  omega
theorem Cw{y n:Nat}(h:(Am y).length=n+1):0<(Am y).getD n 0:=by
 induction n generalizing y with
 | zero=>
  have hy:y≠0:=by rintro rfl;rw [Bo] at h;simp at h
  rw [DG hy] at h ⊢
  have h0:(Am (y/BB)).length=0:=by simpa using h
  have h1:=AT.1 h0
  have h2:y<BB:=by
   rcases Nat.lt_or_ge y BB with h | h
   .exact h
   .have:=Nat.div_pos h BP;omega
  simp [Nat.mod_eq_of_lt h2];omega
 | succ n ih=>
  have hy:y≠0:=by rintro rfl;rw [Bo] at h;simp at h
  rw [DG hy] at h ⊢
  have:=ih (y:=y/BB) (by simpa using h)
  simpa using this
theorem Ql{r:List Nat}{y n s t:Nat}(hl:(Am y).length=n+1)(ht:(Am y).getD n 0=t)(hr:r.length=n+2)(sr:Bn r)(hv:val r=2^s*y)(h1:2147483648<=t*2^s)(h2:(t+1)*2^s<=4294967296) :
  val (r.take (n+1))=2^s*y/\2147483648<=r.getD n 0:=by
 have ey:=CJ hl
 rw [Ao,ht] at ey
 have hlow:val ((Am y).take n)<BB^n:=by
  have:=CI (Cl (Bk y) n)
  rwa [List.length_take,Nat.min_eq_left (by omega)] at this
 have hub:2^s*y<BB^(n+1):=by
  have h3:y+1<=BB^n*(t+1):=by rw [Nat.mul_add];omega
  have h4:2^s*(y+1)<=2^s*(BB^n*(t+1)):=Nat.mul_le_mul_left _ h3
  have h5:2^s*(BB^n*(t+1))=BB^n*((t+1)*2^s):=by rw [Nat.mul_left_comm,Nat.mul_comm (2^s)]
  have h6:BB^n*((t+1)*2^s)<=BB^n*BB:=Nat.mul_le_mul_left _ (by rw [Bb];exact h2)
  have h7:0<2^s:=Nat.two_pow_pos s
  rw [Nat.pow_succ]
  rw [Nat.mul_add] at h4
  omega
 have e1:=CJ hr
 have h0:r.getD (n+1) 0=0:=by
  rcases Nat.eq_zero_or_pos (r.getD (n+1) 0) with h | h
  .exact h
  .exfalso
   have:BB^(n+1)*1<=BB^(n+1)*r.getD (n+1) 0:=Nat.mul_le_mul_left _ h
   omega
 rw [h0,Nat.mul_zero,Nat.add_zero] at e1
 refine ⟨by rw [<-e1,hv],?_⟩
 have e2:=AK r n
 rw [<-e1,hv] at e2
 have h3:BB^n*t<=y:=by omega
 have h4:2^s*(BB^n*t)<=2^s*y:=Nat.mul_le_mul_left _ h3
 have h5:2^s*(BB^n*t)=BB^n*(t*2^s):=by rw [Nat.mul_left_comm,Nat.mul_comm (2^s)]
 have h6:BB^n*2147483648<=BB^n*(t*2^s):=Nat.mul_le_mul_left _ h1
 have h7:val (r.take n)<BB^n:=by
  have:=CI (Cl sr n)
  rwa [List.length_take,Nat.min_eq_left (by omega)] at this
 have h8:BB^n*2147483648<BB^n*(r.getD n 0+1):=by rw [Nat.mul_add];omega
 have:=Nat.lt_of_mul_lt_mul_left h8
 omega
def DivRel(w wr:World)(gu gv gq:Nat)(ul vl U Q:List Nat)(m n k:Nat):Prop:=
 U.length=m+1/\Bn U/\Blk wr gu 108 (wv U)/\Q.length=m-n+1/\Bn Q/\Blk wr gq 108 (wv Q)/\Blk wr gv 108 (wv vl) /\
 val (ul.drop k)=val (Q.drop k)*val (vl.take n)+val (U.drop k)/\U.take k=ul.take k/\val (U.drop k)<val (vl.take n)/\Ext w wr
theorem Fq(U:List Nat)(k j:Nat)(h:k+j<=U.length):val (U.drop k)=val ((U.drop k).take j)+BB^j*val (U.drop (k+j)):=by
 have h1:U.drop k=(U.drop k).take j++(U.drop k).drop j:=(List.take_append_drop j _).symm
 rw [List.drop_drop] at h1
 have h2:((U.drop k).take j).length=j:=by simp;omega
 calc val (U.drop k) = val ((U.drop k).take j ++ U.drop (k + j)) := by rw [← h1]
  _=_:=by rw [Fr,h2]
theorem DivRel.window{w wr:World}{gu gv gq:Nat}{ul vl U Q:List Nat}{m n k:Nat}(h:DivRel w wr gu gv gq ul vl U Q m n (k+1))(hk:k+n<=m)(hn:2<=n)(hvl:n<=vl.length)(sv:Bn vl) :
  ∃x post,x.length=n+1/\Bn x/\Win wr gu (U.take k) x post/\val x<BB*val (vl.take n)/\val post=0/\U=U.take k++x++post/\val x=U.getD k 0+BB*val (U.drop (k+1))/\(U.take k).length=k:=by
 obtain ⟨h1,h2,h3,h4,h5,h6,h7,h8,h9,h10,h11⟩:=h
 have hsplit:U=U.take k++(U.drop k).take (n+1)++U.drop (k+(n+1)):=by
  rw [List.append_assoc,<-List.drop_drop,List.take_append_drop,List.take_append_drop]
 have hVB:val (vl.take n)<BB^n:=by
  have:=CI (Cl sv n)
  rwa [List.length_take,Nat.min_eq_left hvl] at this
 have e1:=CF (l:=U) (k:=k) (by omega)
 have e2:=Fq U k (n+1) (by omega)
 have hUk:=AD h2 k
 have hub:val (U.drop k)<BB*val (vl.take n):=by
  have:BB*(val (U.drop (k+1))+1)<=BB*val (vl.take n):=Nat.mul_le_mul_left _ h10
  rw [Nat.mul_add] at this
  omega
 have hp0:val (U.drop (k+(n+1)))=0:=by
  rcases Nat.eq_zero_or_pos (val (U.drop (k+(n+1)))) with h | h
  .exact h
  .exfalso
   have h12:BB^(n+1)*1<=BB^(n+1)*val (U.drop (k+(n+1))):=Nat.mul_le_mul_left _ h
   have h13:BB*val (vl.take n)<=BB*BB^n:=Nat.mul_le_mul_left _ (Nat.le_of_lt hVB)
   have h14:BB^(n+1)=BB*BB^n:=by rw [Nat.pow_succ,Nat.mul_comm]
   omega
 rw [hp0,Nat.mul_zero,Nat.add_zero] at e2
 refine ⟨(U.drop k).take (n+1),U.drop (k+(n+1)),by simp;omega,Cl (LC h2 k) _,?_,by rw [<-e2];exact hub,hp0,hsplit,by rw [<-e2];exact e1,by simp;omega⟩
 unfold Win
 rw [<-hsplit]
 exact h3
theorem EI{a b:List Nat}(h:val b=0):val (a++b)=val a:=by rw [Fr,h,Nat.mul_zero,Nat.add_zero]
theorem DivRel.step{w wr w1:World}{gu gv gq:Nat}{ul vl U Q x x' post:List Nat}{m n k q:Nat}(h:DivRel w wr gu gv gq ul vl U Q m n (k+1))(hk:k+n<=m)(hul:ul.length=m+1)(hx:x.length=n+1)(hU:U=U.take k++x++post)(hpl:(U.take k).length=k)(hp0:val post=0)(hxv:val x=U.getD k 0+BB*val (U.drop (k+1)))
  (hx':x'.length=n+1) (sx':Bn x') (hW:Win w1 gu (U.take k) x' post) (hO:Only gu wr w1) (hq:q<BB) (Fd:val x'+q*val (vl.take n)=val x) (hlt:val x'<val (vl.take n)) (hgu:w.heap.size<=gu) (hgq:gq≠gu) (hgv:gv≠gu) (hqv:gv≠gq) (hgqw:w.heap.size<=gq) {e:Int} (he:e=(q:Nat)) :
  DivRel w (w1.setCell ⟨gq,k,none⟩ (.int .u32 e)) gu gv gq ul vl (U.take k++x'++post) (Q.set k q) m n k:=by
 obtain ⟨h1,h2,h3,h4,h5,h6,h7,h8,h9,h10,h11⟩:=h
 have sU:Bn (U.take k):=Cl h2 k
 have sp:Bn post:=λy hy=>h2 y (by rw [hU];simp [hy])
 have hk1:k<U.length:=by omega
 have hql:Blk w1 gq 108 (wv Q):=(hO.block gq (Blk.lt h6) hgq).trans h6
 have hvl1:Blk w1 gv 108 (wv vl):=(hO.block gv (Blk.lt h7) hgv).trans h7
 have hd:(U.take k++x'++post).drop k=x'++post:=by
  rw [List.append_assoc,List.drop_append,List.drop_eq_nil_of_le (by omega),hpl,Nat.sub_self];rfl
 have ht:(U.take k++x'++post).take k=U.take k:=by
  rw [List.append_assoc,List.take_append,hpl,Nat.sub_self,List.take_of_length_le (by omega)];simp
 have hul':ul.take k=U.take k:=by
  have:(U.take (k+1)).take k=(ul.take (k+1)).take k:=by rw [h9]
  rw [List.take_take,List.take_take,Nat.min_eq_left (by omega)] at this
  exact this.symm
 have huk:ul.getD k 0=U.getD k 0:=by
  have:(U.take (k+1)).getD k 0=(ul.take (k+1)).getD k 0:=by rw [h9]
  simp only [List.getD_eq_getElem?_getD,List.getElem?_take] at this
  simpa using this.symm
 refine ⟨?_,?_,?_,by simpa using h4,BX h5 k hq,?_,?_,?_,?_,?_,?_⟩
 .have e1:(U.take k++x++post).length=m+1:=by rw [<-hU]; exact h1
  simp only [List.length_append] at e1 ⊢
  omega
 .intro y hy
  rcases List.mem_append.1 hy with hy | hy
  .rcases List.mem_append.1 hy with hy | hy
   .exact sU y hy
   .exact sx' y hy
  .exact sp y hy
 .exact Blk.far hW (by exact λe=>hgq e.symm) _
 .rw [he,<-EQ];exact hql.set k _
 .exact hvl1.far (by exact hqv) _
 .rw [hd, EI hp0, CF (l:=ul) (by omega), CF (l:=Q.set k q) (by rw [List.length_set]; omega), HK, BC (by omega), h8, huk]
  have:BB*(val (Q.drop (k+1))*val (vl.take n)+val (U.drop (k+1)))=BB*val (Q.drop (k+1))*val (vl.take n)+BB*val (U.drop (k+1)):=by rw [Nat.mul_add,Nat.mul_assoc]
  rw [this,Nat.add_mul]
  omega
 .rw [ht,hul']
 .rw [hd,EI hp0];exact hlt
 .refine Ext.set ?_ hgqw _
  exact ⟨hO.os.trans h11.os,hO.tape.trans h11.tape,hO.output.trans h11.output,Nat.le_trans h11.size hO.size,λi hi=>(hO.block i (Nat.lt_of_lt_of_le hi h11.size) (by omega)).trans (h11.block hi)⟩
theorem Wp{ul vl:List Nat}{x y m n s:Nat}(hx:(Am x).length=m)(hy:(Am y).length=n+1)(hle:n+1<=m)(hul:ul.length=m+1)(hu:val ul=2^s*x)(hv:val (vl.take (n+1))=2^s*y):val (ul.drop (m-(n+1)+1))<val (vl.take (n+1)):=by
 have h1:x<BB^m:=by have:=CI (Bk x);rwa [Ao,hx] at this
 have h2:BB^n<=y:=by
  have e:=CJ hy
  rw [Ao] at e
  have:=Cw hy
  have h3:BB^n*1<=BB^n*(Am y).getD n 0:=Nat.mul_le_mul_left _ this
  omega
 have e1:m-(n+1)+1=m-n:=by omega
 rw [e1,hv]
 have h3:val ul=val (ul.take (m-n))+BB^(m-n)*val (ul.drop (m-n)):=by
  have:=Fr (ul.take (m-n)) (ul.drop (m-n))
  rw [List.take_append_drop,List.length_take,Nat.min_eq_left (by omega)] at this
  exact this
 have hs:=Nat.two_pow_pos s
 have h4:2^s*x<2^s*BB^m:=Nat.mul_lt_mul_of_pos_left h1 hs
 have h5:2^s*BB^m=BB^(m-n)*(2^s*BB^n):=by
  rw [Nat.mul_left_comm,<-Nat.pow_add,show m-n+n=m by omega]
 have h6:BB^(m-n)*val (ul.drop (m-n))<BB^(m-n)*(2^s*BB^n):=by omega
 have h7:=Nat.lt_of_mul_lt_mul_left h6
 have h8:2^s*BB^n<=2^s*y:=Nat.mul_le_mul_left _ h2
 omega
theorem Wr{a b s q r:Nat}(hb:0<b)(h:2^s*a=q*(2^s*b)+r)(hr:r<2^s*b):a/b=q/\r/2^s=a%b:=by
 have hs:0<2^s:=Nat.two_pow_pos s
 have h1:(2^s*a)/(2^s*b)=q:=by
  rw [h,Nat.mul_comm q,Nat.mul_add_div (Nat.mul_pos hs hb),Nat.div_eq_of_lt hr,Nat.add_zero]
 have h2:(2^s*a)%(2^s*b)=r:=by
  rw [h,Nat.mul_comm q,Nat.mul_add_mod,Nat.mod_eq_of_lt hr]
 rw [Nat.mul_div_mul_left _ _ hs] at h1
 rw [Nat.mul_mod_mul_left] at h2
 refine ⟨h1,?_⟩
 rw [<-h2,Nat.mul_div_cancel_left _ hs]
def HT(x y:Nat)(w:World)(e:Ending)(w':World):Prop:=
 ∃(A A':Option Addr) (n c n' c':Nat),e = .returned (.tuple #[.slice A n c,.slice A' n' c'])/\Words w' (.slice A n c) (Am (x/y))/\Words w' (.slice A' n' c') (Am (x%y))/\Ext w w'
theorem Words.form{w:World}{v:Value}{l:List Nat}(h:Words w v l):∃A n c,v = .slice A n c:=by
 obtain ⟨A,c,rfl,_⟩:=h
 exact ⟨A,_,c,rfl⟩
theorem Wo(va vb:Value)(la lb:List Nat)(w:World)(ha:Words w va la)(hb:Words w vb lb)(hn:la.length<=4398046511104)(hlt:val la<val lb) :
  Calls Tryz.prog 120 #[va,vb] w (HT (val la) (val lb) w):=by
 have hsa:=Ac ha.small
 have hsb:=Ac hb.small
 replace ha:=Ac ha
 replace hb:=Ac hb
 have hcmp:Df (val la) (val lb)<0:=by unfold Df;rw [if_pos hlt];omega
 have hlen:Hid ((Am (val la)).length<=35184372088832):=by
  have h1:(CL la).length<=la.length:=EX la
  rw [AM hsa.out] at h1
  show _<=_
  omega
 replace hn:=Ac hn
 replace hlt:=Ac hlt
 go_enter Tryz.func120,Tryz.ntmps120
 go_wp2_with fail
 refine (Ck _ _ _ ha.out).mono ?_
 rintro e w1 ⟨v1,rfl,hW1,hE1⟩
 rw [AM hsa.out] at hW1
 replace hW1:=Ac hW1
 replace hE1:=Ac hE1
 go_wp2_with fail
 refine (Ck _ _ _ (hb.out.ext hE1.out)).mono ?_
 rintro e w2 ⟨v2,rfl,hW2,hE2⟩
 rw [AM hsb.out] at hW2
 replace hW1:=Ac (hW1.out.ext hE2)
 replace hE2:=Ac (hE1.out.trans hE2)
 replace hW2:=Ac hW2
 go_wp2_with fail
 refine (Ek _ _ _ _ _ hW1.out hW2.out).mono ?_
 rintro e w3 ⟨rfl,hE3⟩
 replace hW1:=Ac (hW1.out.ext hE3)
 replace hE3:=Ac (hE2.out.trans hE3)
 go_wp2_with fail
 refine (Ii _ _ _ hW1.out hlen.out).mono ?_
 rintro e w4 ⟨v4,rfl,hW4,hE4⟩
 obtain ⟨A4,n4,c4,rfl⟩:=hW4.form
 replace hW4:=Ac hW4
 replace hE4:=Ac (hE3.out.trans hE4)
 go_wp2
 go_ret2
 refine ⟨_,_,_,_,_,_,rfl,?_,?_,hE4.out⟩
 .rw [Nat.div_eq_of_lt hlt.out,Bo];exact Words.nil _ _ _ (by omega)
 .rw [Nat.mod_eq_of_lt hlt.out];exact hW4.out
theorem SS(va vb:Value)(la lb:List Nat)(w:World)(ha:Words w va la)(hb:Words w vb lb)(hn:la.length<=4398046511104)(hge:val lb<=val la)(h1:(Am (val lb)).length=1) :
  Calls Tryz.prog 120 #[va,vb] w (HT (val la) (val lb) w):=by
 have hsa:=Ac ha.small
 have hsb:=Ac hb.small
 replace ha:=Ac ha
 replace hb:=Ac hb
 have hcmp:¬Df (val la) (val lb)<0:=by unfold Df;rw [if_neg (by omega)];split<;>omega
 have hlen:Hid ((Am (val la)).length<=4398046511104):=by
  have h1:(CL la).length<=la.length:=EX la
  rw [AM hsa.out] at h1
  show _<=_
  omega
 obtain ⟨t,ht⟩:∃t,Am (val lb)=[t]:=by
  match hd:Am (val lb),h1 with
  | [t],_=>exact ⟨t,rfl⟩
 have htv:Hid (val lb=t):=by
  show val lb=t
  rw [<-Ao (val lb),ht];simp [val]
 have htB:t<4294967296:=by
  have:=Bk (val lb) t (by rw [ht];simp)
  rwa [Bb] at this
 have ht0:0<t:=by
  have:=Cw (y:=val lb) (n:=0) h1
  rw [ht] at this
  simpa using this
 replace hn:=Ac hn
 replace hge:=Ac hge
 clear h1
 replace ht:=Ac ht
 go_enter Tryz.func120,Tryz.ntmps120
 go_wp2_with fail
 refine (Ck _ _ _ ha.out).mono ?_
 rintro e w1 ⟨v1,rfl,hW1,hE1⟩
 rw [AM hsa.out] at hW1
 replace hW1:=Ac hW1
 replace hE1:=Ac hE1
 go_wp2_with fail
 refine (Ck _ _ _ (hb.out.ext hE1.out)).mono ?_
 rintro e w2 ⟨v2,rfl,hW2,hE2⟩
 rw [AM hsb.out] at hW2
 replace hW1:=Ac (hW1.out.ext hE2)
 replace hE2:=Ac (hE1.out.trans hE2)
 replace hW2:=Ac hW2
 go_wp2_with fail
 refine (Ek _ _ _ _ _ hW1.out hW2.out).mono ?_
 rintro e w3 ⟨rfl,hE3⟩
 replace hW1:=Ac (hW1.out.ext hE3)
 replace hW2:=hW2.out.ext hE3
 replace hE3:=Ac (hE2.out.trans hE3)
 rw [ht.out] at hW2
 obtain ⟨A2,c2,rfl,hc2,hm2,hx2⟩:=hW2.open_
 obtain ⟨b2,o2,rfl,hb2,hcell2⟩:=hx2 (by simp)
 replace hcell2:w3.cell? ⟨b2,o2,none⟩=some (.int .u32 (t:Nat)):=hcell2 0 (by simp)
 clear hx2 hW2
 go_wp2_with fail
 refine (Ld _ _ t _ hW1.out hlen.out ht0 htB).mono ?_
 rintro e w4 ⟨v4,rfl,hW4,hE4⟩
 obtain ⟨A4,n4,c4,rfl⟩:=hW4.form
 replace hW4:=Ac hW4
 replace hE4:=Ac (hE3.out.trans hE4)
 have hrB:val (Am (val la))%t<18446744073709551616:=by have:=Nat.mod_lt (val (Am (val la))) ht0;omega
 replace hrB:=Ac hrB
 clear hcell2
 go_wp2_with fail
 refine (JK _ _ hrB.out).mono ?_
 rintro e w5 ⟨v5,rfl,hW5,hE5⟩
 obtain ⟨A5,n5,c5,rfl⟩:=hW5.form
 replace hW4:=Ac (hW4.out.ext hE5)
 replace hW5:=Ac hW5
 replace hE5:=Ac (hE4.out.trans hE5)
 go_wp2
 go_ret2
 refine ⟨_,_,_,_,_,_,rfl,?_,?_,hE5.out⟩
 .have:=hW4.out;rw [Ao] at this;rw [htv.out];exact this
 .have:=hW5.out;rw [Ao] at this;rw [htv.out];exact this
theorem Lb(b bv n cu cv k:Nat)(pre post u v:List Nat)(w:World)(hk:pre.length=k)(hW:Win w b pre u post)(hu:u.length=n+1)(hv:n<=v.length)(hn2:2<=n)(hn:n<=4398046511104)(su:Bn u)(sv:Bn v)(hbv:bv≠b)
  (hvb:Blk w bv 108 (wv v)) (hcu:n+1<=cu) (hcv:n<=cv) (htop:2147483648<=v.getD (n-1) 0) (hlt:val u<BB*val (v.take n)) :
  Calls Tryz.prog 138 #[.slice (some ⟨b,k,none⟩) (n+1) cu,.slice (some ⟨bv,0,none⟩) n cv] w (ZH w b pre post u (v.take n)):=by
 subst hk
 refine JU b bv 0 n cu cv pre post u (v.take n) w hW hu (by simp;omega) hn2 hn su (Cl sv n) hbv (λi hi=>?_) hcu hcv ?_ hlt
 .rw [Nat.zero_add, hvb.cell, Ch (by omega)]
  simp [hi]
 .simp only [List.getD_eq_getElem?_getD,List.getElem?_take] at htop ⊢
  rw [if_pos (by omega)]
  exact htop
set_option maxRecDepth 1000000 in
theorem ST(va vb:Value)(la lb:List Nat)(w:World)(ha:Words w va la)(hb:Words w vb lb)(hn:la.length<=4398046511104)(hge:val lb<=val la)(h2:2<=(Am (val lb)).length) :
  Calls Tryz.prog 120 #[va,vb] w (HT (val la) (val lb) w):=by
 have hsa:=Ac ha.small
 have hsb:=Ac hb.small
 replace ha:=Ac ha
 replace hb:=Ac hb
 have hcmp:¬Df (val la) (val lb)<0:=by unfold Df;rw [if_neg (by omega)];split<;>omega
 have hlen:(Am (val la)).length<=4398046511104:=by
  have h1:(CL la).length<=la.length:=EX la
  rw [AM hsa.out] at h1
  omega
 have hle:=BI hge
 obtain ⟨n,hn1⟩:∃n,(Am (val lb)).length=n+1:=⟨(Am (val lb)).length-1,by omega⟩
 obtain ⟨m,hm1⟩:∃m,(Am (val la)).length=m:=⟨_,rfl⟩
 have ht0:=Cw hn1
 have htB:=AD (Bk (val lb)) n
 generalize ht:(Am (val lb)).getD n 0=t at *
 unfold BB at htB
 obtain ⟨s,hs1,hs,hs2,hs3⟩:=VO ht0 htB
 rw [hm1] at hlen hle
 rw [hn1] at hle h2
 have hn2:1<=n:=by omega
 clear h2 hn
 replace ht:=Ac ht
 replace hn1:=Ac hn1
 replace hm1:=Ac hm1
 replace hge:=Ac hge
 replace hs2:=Ac hs2
 replace hs3:=Ac hs3
 replace hs1:=Ac hs1
 have hmk:=λW=>By (m-(n+1)+1) (by omega) .i64 .i64 W
 have hsub:((m-(n+1)+1:Nat):Int)=(m:Int)-((n:Int)+1)+1:=by omega
 rw [hsub] at hmk
 clear hsub
 go_enter Tryz.func120,Tryz.ntmps120
 go_wp2_with fail
 refine (Ck _ _ _ ha.out).mono ?_
 rintro e w1 ⟨v1,rfl,hW1,hE1⟩
 rw [AM hsa.out] at hW1
 replace hW1:=Ac hW1
 replace hE1:=Ac hE1
 go_wp2_with fail
 refine (Ck _ _ _ (hb.out.ext hE1.out)).mono ?_
 rintro e w2 ⟨v2,rfl,hW2,hE2⟩
 rw [AM hsb.out] at hW2
 replace hW1:=Ac (hW1.out.ext hE2)
 replace hE2:=Ac (hE1.out.trans hE2)
 replace hW2:=Ac hW2
 go_wp2_with fail
 refine (Ek _ _ _ _ _ hW1.out hW2.out).mono ?_
 rintro e w3 ⟨rfl,hE3⟩
 replace hW1:=hW1.out.ext hE3
 replace hW2:=hW2.out.ext hE3
 replace hE3:=Ac (hE2.out.trans hE3)
 obtain ⟨A1,c1,rfl,hc1,hm1',hx1⟩:=hW1.open_
 clear hx1
 obtain ⟨A2,c2,rfl,hc2,hm2,hx2⟩:=hW2.open_
 obtain ⟨b2,o2,rfl,hb2,hcell2⟩:=hx2 (by rw [hn1.out];omega)
 replace hcell2:w3.cell? ⟨b2,o2+n,none⟩=some (.int .u32 (t:Nat)):=by have:=hcell2 n (by rw [hn1.out];omega);rw [ht.out] at this;exact this
 clear hx2
 rw [hn1.out] at hc2 ⊢
 rw [hm1.out] at hc1 ⊢
 replace hW1:=Ac hW1
 replace hW2:=Ac hW2
 have hne1:(((n+1:Nat):Int)==1)=false:=by simp;omega
 go_wp2_with fail
 refine (Go.Proofs.Tryz.bits_LeadingZeros32 _ _ (by omega) (by omega)).mono ?_
 rintro e w3 ⟨rfl,rfl⟩
 rw [Int.toNat_natCast,hs1.out]
 have hW1':Hid (Words w3 (.slice A1 m c1) (Am (val la))):=by have:=hW1.out;rw [hm1.out] at this;exact this
 have hW2':Hid (Words w3 (.slice (some ⟨b2,o2,none⟩) (n+1) c2) (Am (val lb))):=by have:=hW2.out;rw [hn1.out] at this;exact this
 clear hW1 hW2 hcell2
 go_wp2_with fail
 refine (Io _ _ s _ hW1'.out (by rw [hm1.out];exact hlen) hs).mono ?_
 rintro e w4 ⟨gu,ul,rfl,hul,sul,hgu,hBu,hvu,hE4⟩
 rw [hm1.out] at hul ⊢
 have hW2:=Ac (hW2'.out.ext hE4)
 clear hW1' hW2'
 go_wp2_with fail
 refine (Io _ _ s _ hW2.out (by rw [hn1.out];omega) hs).mono ?_
 rintro e w5 ⟨gv,vl,rfl,hvl,svl,hgv,hBv,hvv,hE5⟩
 have hguv:gv≠gu:=by have:=Blk.lt hBu;omega
 rw [hn1.out] at hvl ⊢
 clear hW2
 rw [Ao] at hvu hvv
 have hst:=Ac (Ql hn1.out ht.out hvl svl hvv hs2.out hs3.out)
 replace hBu:=hBu.ext hE5
 replace hE5:=hE3.out.trans (hE4.trans hE5)
 replace hul:=Ac hul
 replace hvl:=Ac hvl
 replace sul:=Ac sul
 replace svl:=Ac svl
 replace hvu:=Ac hvu
 replace hvv:=Ac hvv
 replace hBu:=Ac hBu
 replace hBv:=Ac hBv
 replace hE5:=Ac hE5
 have hgu5:=Blk.lt hBu.out
 have hgv5:=Blk.lt hBv.out
 have hguw:w.heap.size<=gu:=Nat.le_trans hE3.out.size hgu
 have hszw:=hE5.out.size
 replace hguw:=Ac hguw
 replace hszw:=Ac hszw
 clear hE4 hgu hgv
 go_wp2
 go_loopw [13] (λi wr=>∃(k:Nat) (U Q:List Nat),k<=m-(n+1)+1/\i = .int .i64 ((k:Int)-1)/\Hid (DivRel w wr gu gv w5.heap.size ul vl U Q m (n+1) k)) (λi _=>(intOf i+1).toNat)
 case atStart=>
  refine ⟨m-(n+1)+1,ul,List.replicate (m-(n+1)+1) 0,Nat.le_refl _,by congr 1;omega,hul.out,sul.out,hBu.out.alloc _,by simp,Bs _,Blk.new _ _ _,hBv.out.alloc _,?_,rfl,?_,hE5.out.alloc _⟩
  .have:(List.replicate (m-(n+1)+1) 0).drop (m-(n+1)+1)=[]:=List.drop_eq_nil_of_le (by simp)
   rw [this];simp [val]
  .exact Wp hm1.out hn1.out hle hul.out hvu.out hst.out.1
 case round=>
  obtain ⟨k,U,Q,hk,rfl,hR⟩:=hrel
  by_cases hk0:k=0
  .subst hk0
   have hWq:Hid (Words wr (.slice (some ⟨w5.heap.size,0,none⟩) (m-(n+1)+1) (m-(n+1)+1)) Q):=by
    have:=Bu (c:=m-(n+1)+1) hR.out.2.2.2.2.2.1 hR.out.2.2.2.2.1 (by rw [hR.out.2.2.2.1];omega) (by omega)
    rw [hR.out.2.2.2.1] at this
    exact this
   have hUn:Hid ((U.take (n+1)).length=n+1):=by show _=_;rw [List.length_take,hR.out.1];omega
   have hWu:Hid (Words wr (.slice (some ⟨gu,0,none⟩) (n+1) (m+1)) (U.take (n+1))):=by
    have:=Bu (c:=m+1) hR.out.2.2.1 hR.out.2.1 (by rw [hR.out.1];omega) (by omega)
    have:=this.take (k:=n+1) (by rw [hR.out.1];omega)
    exact this
   have hfin:Hid (val la/val lb=val Q/\val (U.take (n+1))/2^s=val la%val lb):=by
    have h1:=hR.out.2.2.2.2.2.2.2.1
    have h2:=hR.out.2.2.2.2.2.2.2.2.2.1
    simp only [List.drop_zero] at h1 h2
    rw [hvu.out,hst.out.1] at h1
    rw [hst.out.1] at h2
    have hb0:0<val lb:=by
     rcases Nat.eq_zero_or_pos (val lb) with h | h
     .have:=hn1.out;rw [h,Bo] at this;simp at this
     .exact h
    have hUt:val (U.take (n+1))=val U:=by
     have e:=Fq U 0 (n+1) (by rw [hR.out.1];omega)
     simp only [List.drop_zero,Nat.zero_add] at e
     have hVB:2^s*val lb<BB^(n+1):=by
      rw [<-hst.out.1]
      have:=CI (Cl svl.out (n+1))
      rwa [List.length_take,hvl.out,Nat.min_eq_left (by omega)] at this
     rcases Nat.eq_zero_or_pos (val (U.drop (n+1))) with h | h
     .rw [h,Nat.mul_zero,Nat.add_zero] at e;exact e.symm
     .exfalso
      have:BB^(n+1)*1<=BB^(n+1)*val (U.drop (n+1)):=Nat.mul_le_mul_left _ h
      omega
    rw [hUt]
    exact Wr hb0 h1 h2
   go_wp2
   refine wp_region_v (by kernel_rfl) [[], [(81, 0)], [], [], [(83, 2), (84, 3)], [], [(85, 4), (86, 5)]] [[], [0], [], [], [2, 3], [], [0, 1, 2, 3, 4, 5]]
    [λv _=>v = .slice (some ⟨w5.heap.size,0,none⟩) (m-(n+1)+1) (m-(n+1)+1),λv w'=>∃A n c,v = .slice A n c/\Words w' (.slice A n c) (Am (val la/val lb)),λv _=>v = .slice (some ⟨gu,0,none⟩) (m+1) (m+1),λv _=>v = .int .i64 ((n:Int)+1),λv _=>v = .slice (some ⟨gu,0,none⟩) (n+1) (m+1),λv _=>v = .int .i64 (s:Int),λv w'=>∃A n c,v = .slice A n c/\Words w' (.slice A n c) (Am (val la%val lb))]
    rfl (by kernel_rfl) (by kernel_rfl) ?stab ?steps ?fin
   case stab=>exact .cons (Stab.eq _) (.cons (λ_ _ _ he ⟨A,n,c,h1,h2⟩=>⟨A,n,c,h1,h2.ext he⟩) (.cons (Stab.eq _) (.cons (Stab.eq _) (.cons (Stab.eq _) (.cons (Stab.eq _) (.cons (λ_ _ _ he ⟨A,n,c,h1,h2⟩=>⟨A,n,c,h1,h2.ext he⟩) .nil))))))
   case steps=>
    refine .cons ?s0 (.cons ?s1 (.cons ?s2 (.cons ?s3 (.cons ?s4 (.cons ?s5 (.cons ?s6 .nil))))))
    case s0=>
     intro w' ev hE hk ha hc hf
     have e12:ev (.tmp 12) = .slice (some ⟨w5.heap.size,0,none⟩) (m-(n+1)+1) (m-(n+1)+1):=ha 12 (by decide)
     exact Ag (by simp [execOp,e12,go_sem]) rfl
    case s1=>
     intro w' ev hE hk ha hc hf
     have e81:ev (.tmp 81) = .slice (some ⟨w5.heap.size,0,none⟩) (m-(n+1)+1) (m-(n+1)+1):=hk.1 _ rfl
     refine Aw (by simp [execOp,resolve,invoke,hf,e81,go_sem]) (Ck _ _ _ (hWq.out.ext ((Ext.refl _).drew.trans hE))) ?_
     rintro e w1 ⟨v1,rfl,hW1,hE1⟩
     obtain ⟨A1,n1,c1,rfl⟩:=hW1.form
     exact ⟨_,rfl,hE1,_,_,_,rfl,by rw [AM hR.out.2.2.2.2.1,<-hfin.out.1] at hW1;exact hW1⟩
    case s2=>
     intro w' ev hE hk ha hc hf
     have e10:ev (.tmp 10) = .slice (some ⟨gu,0,none⟩) (m+1) (m+1):=ha 10 (by decide)
     exact Ag (by simp [execOp,e10,go_sem]) rfl
    case s3=>
     intro w' ev hE hk ha hc hf
     have e8:ev (.tmp 8) = .int .i64 ((n:Int)+1):=ha 8 (by decide)
     exact Ag (by simp [execOp,e8,go_sem]) rfl
    case s4=>
     intro w' ev hE hk ha hc hf
     have e83:ev (.tmp 83) = .slice (some ⟨gu,0,none⟩) (m+1) (m+1):=hk.1 _ rfl
     have e84:ev (.tmp 84) = .int .i64 ((n:Int)+1):=hk.2.1 _ rfl
     have hsl1:(n:Int)+1<=(m:Int)+1:=by omega
     have hsl2:(0:Int)<=(n:Int)+1:=by omega
     exact Ag (by simp [execOp,e83,e84,hsl1,hsl2,go_sem]) rfl
    case s5=>
     intro w' ev hE hk ha hc hf
     have e9:ev (.tmp 9) = .int .i64 (s:Int):=ha 9 (by decide)
     exact Ag (by simp [execOp,e9,go_sem]) rfl
    case s6=>
     intro w' ev hE hk ha hc hf
     have e85:ev (.tmp 85) = .slice (some ⟨gu,0,none⟩) (n+1) (m+1):=hk.1 _ rfl
     have e86:ev (.tmp 86) = .int .i64 (s:Int):=hk.2.1 _ rfl
     refine Aw (by simp [execOp,resolve,invoke,hf,e85,e86,go_sem]) (LF _ _ s _ (hWu.out.ext ((Ext.refl _).drew.trans hE)) (by rw [hUn.out];omega) hs) ?_
     rintro e w1 ⟨v1,rfl,hW1,hE1⟩
     obtain ⟨A1,n1,c1,rfl⟩:=hW1.form
     exact ⟨_,rfl,hE1,_,_,_,rfl,by rw [hfin.out.2] at hW1;exact hW1⟩
   case fin=>
    intro g w' hE hF
    obtain ⟨A1',n1',c1',e1,hq1⟩:=hF 1 _ rfl
    obtain ⟨A2',n2',c2',e2,hq2⟩:=hF 6 _ rfl
    simp only [List.length_cons,List.length_nil,Nat.reduceAdd,List.drop_succ_cons,List.drop_zero,List.take_succ_cons,List.take_zero,CM,Act.put,List.setIfInBounds_toArray,List.set_cons_succ,List.set_cons_zero,e1,e2]
    clear hF e1 e2
    replace hq1:=Ac hq1
    replace hq2:=Ac hq2
    replace hE:=Ac (hR.out.2.2.2.2.2.2.2.2.2.2.trans ((Ext.refl _).drew.trans hE))
    go_wp2
    go_ret2
    exact ⟨_,_,_,_,_,_,rfl,hq1.out,hq2.out,hE.out⟩
  .obtain ⟨k, rfl⟩:∃q, k=q+1:=⟨k-1, by omega⟩
   have hq1:((k+1:Nat):Int)-1=k:=by omega
   rw [hq1]
   obtain ⟨x,post,hx1,hx2,hx3,hx4,hx5,hx6,hx7,hx8⟩:=hR.out.window (by omega) (by omega) (by rw [hvl.out];omega) svl.out
   replace hx1:=Ac hx1
   replace hx2:=Ac hx2
   replace hx3:=Ac hx3
   replace hx4:=Ac hx4
   replace hx5:=Ac hx5
   replace hx6:=Ac hx6
   replace hx7:=Ac hx7
   replace hx8:=Ac hx8
   go_wp2_with fail
   rw [show k+(n+1)+1-k=n+1+1 by omega]
   refine (Lb gu gv (n+1) _ _ k (U.take k) post x vl wr hx8.out hx3.out hx1.out (by rw [hvl.out];omega) (by omega) (by omega) hx2.out svl.out hguv hR.out.2.2.2.2.2.2.1 (by omega) (by omega) hst.out.2 hx4.out).mono ?_
   rintro e w6 ⟨q,x',rfl,hq,hx',sx',hW',hO,Fd,hlt'⟩
   rw [hx1.out] at hx'
   have hqB:q<4294967296:=by rwa [Bb] at hq
   have hBq:Blk w6 w5.heap.size 108 (wv Q):=(hO.block _ (Blk.lt hR.out.2.2.2.2.2.1) (by omega)).trans hR.out.2.2.2.2.2.1
   have hstc:w6.cell? ⟨w5.heap.size,k,none⟩=some (.int .u32 (Q.getD k 0:Nat)):=by rw [hBq.cell,Ch (by rw [hR.out.2.2.2.1];omega)]
   have hfz:=hBq.frozen k
   have hstep:=hR.out.step (by omega) hul.out hx1.out hx6.out hx8.out hx5.out hx7.out hx' sx' hW' hO hq Fd hlt' hguw.out (by omega) hguv (by omega) hszw.out (e:=(q:Nat)) rfl
   replace hstep:=Ac hstep
   clear hx' sx' hW' hO Fd hlt' hBq hq
   go_wp2
   exact ⟨⟨k,_,_,by omega,rfl,hstep⟩,by simp [intOf]⟩
theorem GU(va vb:Value)(la lb:List Nat)(w:World)(ha:Words w va la)(hb:Words w vb lb)(hn:la.length<=4398046511104)(h0:val lb≠0) :
  Calls Tryz.prog 120 #[va,vb] w (HT (val la) (val lb) w):=by
 rcases Nat.lt_or_ge (val la) (val lb) with h | h
 .exact Wo va vb la lb w ha hb hn h
 .by_cases h1:(Am (val lb)).length=1
  .exact SS va vb la lb w ha hb hn h h1
  .have h2:(Am (val lb)).length≠0:=λe=>h0 (AT.1 e)
   exact ST va vb la lb w ha hb hn h (by omega)
theorem DE{x k:Nat}(h:(Am x).length<=k):x<BB^k:=by
 have:=CI (Bk x)
 rw [Ao] at this
 exact Nat.lt_of_lt_of_le this (Nat.pow_le_pow_right BP h)
theorem Ei{x k:Nat}(h:x<BB^k):(Am x).length<=k:=by
 induction k generalizing x with
 | zero=>simp at h;subst h;rw [Bo];simp
 | succ k ih=>
  by_cases hx:x=0
  .subst hx;rw [Bo];simp
  .rw [DG hx]
   simp only [List.length_cons]
   have:=ih (x:=x/BB) (Nat.div_lt_of_lt_mul (by rw [Nat.pow_succ,Nat.mul_comm] at h;exact h))
   omega
theorem UU:BB^2=18446744073709551616:=by decide
theorem Bt{x y k:Nat}(h:x<=y)(hy:(Am y).length<=k):(Am x).length<=k:=Nat.le_trans (BI h) hy
def ZW(W:World)(G N k:Nat)(X Y:Value)(wr:World):Prop:=
 ∃(x y:Nat) (A A':Option Addr) (n c n' c':Nat),X = .slice A n c/\Y = .slice A' n' c'/\Words wr (.slice A n c) (Am x)/\Words wr (.slice A' n' c') (Am y)/\Nat.gcd x y=G/\y=k/\(Am x).length<=N/\(Am y).length<=N/\Ext W wr
def A2R(G:Nat)(m n:Value):Prop:=∃p q:Nat,m = .int .u64 p/\n = .int .u64 q/\p<18446744073709551616/\q<18446744073709551616/\Nat.gcd p q=G
theorem Words.len{w:World}{A:Option Addr}{n c:Nat}{l:List Nat}(h:Words w (.slice A n c) l):n=l.length:=by
 obtain ⟨A',c',hv,_⟩:=h
 injection hv
theorem UA(b b':Bool)(A A':Option Addr)(n c n' c':Nat)(x y:Int)(w:World)(h:IsInt w (.bool b) (.slice A n c) x)(h':IsInt w (.bool b') (.slice A' n' c') y)(hn:(Am x.natAbs).length<=4398046511104)(hn':(Am y.natAbs).length<=4398046511104) :
  Calls Tryz.prog 96 #[.agg #[.bool b,.slice A n c],.agg #[.bool b',.slice A' n' c']] w (Dd (Nat.gcd x.natAbs y.natAbs) w):=by
 replace h:=Ac h
 replace h':=Ac h'
 replace hn:=Ac hn
 replace hn':=Ac hn'
 go_enter Tryz.func96,Tryz.ntmps96
 go_wp2
 refine wp_region_v (by kernel_rfl) [[], [(11, 0)], [(12, 1)], [(13, 2)], [], [(15, 4)], [(16, 5)], [(17, 6)]] [[], [0], [0, 1], [0, 1, 2], [], [4], [0, 1, 2, 3, 4, 5], [0, 1, 2, 3, 4, 5, 6]]
  [λv _=>v = .pointer (some ⟨w.heap.size,1,none⟩),λv _=>v = .slice A n c,λv w'=>∃A n c,v = .slice A n c/\Words w' (.slice A n c) (Am x.natAbs),λv w'=>∃A n c,v = .slice A n c/\Words w' (.slice A n c) (Am x.natAbs),λv _=>v = .pointer (some ⟨w.heap.size+1,1,none⟩),λv _=>v = .slice A' n' c',λv w'=>∃A n c,v = .slice A n c/\Words w' (.slice A n c) (Am y.natAbs),λv w'=>∃A n c,v = .slice A n c/\Words w' (.slice A n c) (Am y.natAbs)]
  rfl (by kernel_rfl) (by kernel_rfl) ?stab ?steps ?fin
 case stab=>exact .cons (Stab.eq _) (.cons (Stab.eq _) (.cons (λ_ _ _ he ⟨A,n,c,h1,h2⟩=>⟨A,n,c,h1,h2.ext he⟩) (.cons (λ_ _ _ he ⟨A,n,c,h1,h2⟩=>⟨A,n,c,h1,h2.ext he⟩) (.cons (Stab.eq _) (.cons (Stab.eq _) (.cons (λ_ _ _ he ⟨A,n,c,h1,h2⟩=>⟨A,n,c,h1,h2.ext he⟩) (.cons (λ_ _ _ he ⟨A,n,c,h1,h2⟩=>⟨A,n,c,h1,h2.ext he⟩) .nil)))))))
 case steps=>
  refine .cons ?s0 (.cons ?s1 (.cons ?s2 (.cons ?s3 (.cons ?s4 (.cons ?s5 (.cons ?s6 (.cons ?s7 .nil)))))))
  case s0=>
   intro w' ev hE hk ha hc hf
   have e2:ev (.tmp 2) = .pointer (some ⟨w.heap.size,0,none⟩):=ha 2 (by decide)
   exact Ag (by simp [execOp,e2,go_sem]) rfl
  case s1=>
   intro w' ev hE hk ha hc hf
   have e11:ev (.tmp 11) = .pointer (some ⟨w.heap.size,1,none⟩):=hk.1 _ rfl
   have c0:w'.cell? ⟨w.heap.size,1,none⟩=some (.slice A n c):=hE.cellv (((((Blk.new _ _ _).alloc _).alloc _).drew.cell 1))
   exact Ag (by simp [execOp,e11,c0,go_sem]) rfl
  case s2=>
   intro w' ev hE hk ha hc hf
   have e12:ev (.tmp 12) = .slice A n c:=hk.1 _ rfl
   refine Aw (by simp [execOp,resolve,invoke,hf,e12,go_sem]) (Ck _ _ _ (h.out.2.ext (((((Ext.refl _).alloc _).alloc _).alloc _).drew.trans hE))) ?_
   rintro e w1 ⟨v1,rfl,hW1,hE1⟩
   obtain ⟨A1,n1,c1,rfl⟩:=hW1.form
   exact ⟨_,rfl,hE1,_,_,_,rfl,by rw [AM (Bk _),Ao] at hW1;exact hW1⟩
  case s3=>
   intro w' ev hE hk ha hc hf
   have f13:=hk.1 _ rfl
   obtain ⟨A3,n3,c3,e13,hw3⟩:=f13
   refine Aw (by simp [execOp,resolve,invoke,hf,e13,go_sem]) (Ii _ _ _ hw3 (by have:=hn.out;omega)) ?_
   rintro e w1 ⟨v1,rfl,hW1,hE1⟩
   obtain ⟨A1,n1,c1,rfl⟩:=hW1.form
   exact ⟨_,rfl,hE1,_,_,_,rfl,by skip;exact hW1⟩
  case s4=>
   intro w' ev hE hk ha hc hf
   have e3:ev (.tmp 3) = .pointer (some ⟨w.heap.size+1,0,none⟩):=ha 3 (by decide)
   exact Ag (by simp [execOp,e3,go_sem]) rfl
  case s5=>
   intro w' ev hE hk ha hc hf
   have e15:ev (.tmp 15) = .pointer (some ⟨w.heap.size+1,1,none⟩):=hk.1 _ rfl
   have c0:w'.cell? ⟨w.heap.size+1,1,none⟩=some (.slice A' n' c'):=hE.cellv ((((AW _ _ (by simp)).alloc _).drew.cell 1))
   exact Ag (by simp [execOp,e15,c0,go_sem]) rfl
  case s6=>
   intro w' ev hE hk ha hc hf
   have e16:ev (.tmp 16) = .slice A' n' c':=hk.1 _ rfl
   refine Aw (by simp [execOp,resolve,invoke,hf,e16,go_sem]) (Ck _ _ _ (h'.out.2.ext (((((Ext.refl _).alloc _).alloc _).alloc _).drew.trans hE))) ?_
   rintro e w1 ⟨v1,rfl,hW1,hE1⟩
   obtain ⟨A1,n1,c1,rfl⟩:=hW1.form
   exact ⟨_,rfl,hE1,_,_,_,rfl,by rw [AM (Bk _),Ao] at hW1;exact hW1⟩
  case s7=>
   intro w' ev hE hk ha hc hf
   have f17:=hk.1 _ rfl
   obtain ⟨A3,n3,c3,e17,hw3⟩:=f17
   refine Aw (by simp [execOp,resolve,invoke,hf,e17,go_sem]) (Ii _ _ _ hw3 (by have:=hn'.out;omega)) ?_
   rintro e w1 ⟨v1,rfl,hW1,hE1⟩
   obtain ⟨A1,n1,c1,rfl⟩:=hW1.form
   exact ⟨_,rfl,hE1,_,_,_,rfl,by skip;exact hW1⟩
 case fin=>
  intro g w' hE hF
  obtain ⟨AX,nX,cX,e3,hX⟩:=hF 3 _ rfl
  obtain ⟨AY,nY,cY,e7,hY⟩:=hF 7 _ rfl
  simp only [List.length_cons,List.length_nil,Nat.reduceAdd,List.drop_succ_cons,List.drop_zero,List.take_succ_cons,List.take_zero,CM,Act.put,List.setIfInBounds_toArray,List.set_cons_succ,List.set_cons_zero,e3,e7]
  clear hF e3 e7
  replace hX:=Ac hX
  replace hY:=Ac hY
  replace hE:=Ac hE
  generalize hG:Nat.gcd x.natAbs y.natAbs=G at *
  replace hG:=Ac hG
  go_wp2
  go_loopg [5,6] (y.natAbs) (λk X Y wr=>ZW (((w.alloc (Obj.cells #[Value.bool b,Value.slice A n c] 40)).alloc (Obj.cells #[Value.bool b',Value.slice A' n' c'] 40)).alloc (Obj.cells #[Value.bool false,Value.slice none 0 0] 40)).drew G 4398046511104 k X Y wr)
  case atStart=>exact ⟨_,_,_,_,_,_,_,_,rfl,rfl,hX.out,hY.out,hG.out,rfl,hn.out,hn'.out,hE.out⟩
  case round=>
   obtain ⟨p,q,A1,A2,n1,c1,n2,c2,rfl,rfl,hW1,hW2,hgc,rfl,hl1,hl2,hEr⟩:=hrel
   clear hX hY hE
   have en1:=hW1.len
   have en2:=hW2.len
   by_cases hq0:q=0
   .subst hq0
    obtain rfl:n2=0:=by rw [en2,Bo];rfl
    have hp:Hid (p=G):=by show p=G;rw [<-hgc];simp
    replace hW1:=Ac hW1
    replace hEr:=Ac hEr
    clear en1 en2 hgc hW2 hl1 hl2
    go_wp2_with fail
    refine (Ca _ _ _ _ hW1.out).mono ?_
    rintro e w2 ⟨b2,A2,n2,k2,rfl,hI2,hE2⟩
    rw [Ao,hp.out] at hI2
    replace hE2:=Ac (hEr.out.trans hE2)
    replace hI2:=Ac hI2
    obtain ⟨hcell,hfr⟩:=hE2.out.cells
    go_wp2
    refine bodyPost_ret (v:=.agg #[.bool b2,.slice A2 n2 k2]) (by simp [results,Tryz.results96,go_sem,hcell]) rfl ⟨_,_,_,_,rfl,?_,?_⟩
    .have ht:Ty w2 (w.heap.size+2) 40:=(Br _ _ (by simp)).drew.ext hE2.out
     exact (hI2.out.set ht (by decide) _).set (ht.set _ _) (by decide) _
    .exact (((((Ext.refl _).alloc _).alloc _).alloc _).drew.trans hE2.out |>.set (by simp<;>omega) _).set (by simp<;>omega) _
   .have hn2:0<n2:=by
     rcases Nat.eq_zero_or_pos n2 with h0 | h0
     .exact absurd (AT.1 (en2.symm.trans h0)) hq0
     .exact h0
    by_cases hsm:n1<=2/\n2<=2
    .obtain ⟨hs1,hs2⟩:=hsm
     have hpB:p<18446744073709551616:=by rw [<-UU];exact DE (by omega)
     have hqB:q<18446744073709551616:=by rw [<-UU];exact DE (by omega)
     have hl1':(Am p).length<=2:=by omega
     have hl2':(Am q).length<=2:=by omega
     replace hW1:=Ac hW1
     replace hW2:=Ac hW2
     replace hEr:=Ac hEr
     replace hgc:=Ac hgc
     replace hl1':=Ac hl1'
     replace hl2':=Ac hl2'
     replace hpB:=Ac hpB
     replace hqB:=Ac hqB
     clear en1 en2 hl1 hl2
     have d1:decide ((n1:Int)<=2)=true:=by simp;omega
     have d2:decide ((n2:Int)<=2)=true:=by simp;omega
     go_wp2_with fail
     refine (No _ _ _ hW1.out hl1'.out).mono ?_
     rintro e w1 ⟨rfl,hE1⟩
     replace hW2:=Ac (hW2.out.ext hE1)
     replace hE1:=Ac (hEr.out.trans hE1)
     go_wp2_with fail
     refine (No _ _ _ hW2.out hl2'.out).mono ?_
     rintro e w2 ⟨rfl,hE2⟩
     replace hE2:=Ac (hE1.out.trans hE2)
     rw [Ao,Ao]
     go_wp2
     go_loopw [7,8] (λmm nn wr=>A2R G mm nn/\Hid (Ext (((w.alloc (Obj.cells #[Value.bool b,Value.slice A n c] 40)).alloc (Obj.cells #[Value.bool b',Value.slice A' n' c'] 40)).alloc (Obj.cells #[Value.bool false,Value.slice none 0 0] 40)).drew wr)) (λ_ nn _=>(intOf nn).toNat)
     case atStart=>exact ⟨⟨p,q,rfl,rfl,hpB.out,hqB.out,hgc.out⟩,hE2.out⟩
     case round=>
      obtain ⟨⟨p,q,rfl,rfl,hp,hq,hg⟩,hEw⟩:=hrel
      clear hgc hpB hqB hE2 hE1 hEr hW1 hW2 hl1' hl2'
      replace hg:=Ac hg
      by_cases hz:q=0
      .subst hz
       have hpG:Hid (p=G):=by show p=G;rw [<-hg.out];simp
       replace hp:=Ac hp
       go_wp2_with fail
       refine (JK _ _ hp.out).mono ?_
       rintro e w3 ⟨v3,rfl,hW3,hE3⟩
       replace hE3:=Ac (hEw.out.trans hE3)
       replace hW3:=Ac hW3
       go_wp2_with fail
       refine (Ca _ _ _ _ hW3.out).mono ?_
       rintro e w2 ⟨b2,A2,n2,k2,rfl,hI2,hE2⟩
       rw [Ao,hpG.out] at hI2
       replace hE2:=Ac (hE3.out.trans hE2)
       replace hI2:=Ac hI2
       obtain ⟨hcell,hfr⟩:=hE2.out.cells
       go_wp2
       refine bodyPost_ret (v:=.agg #[.bool b2,.slice A2 n2 k2]) (by simp [results,Tryz.results96,go_sem,hcell]) rfl ⟨_,_,_,_,rfl,?_,?_⟩
       .have ht:Ty w2 (w.heap.size+2) 40:=(Br _ _ (by simp)).drew.ext hE2.out
        exact (hI2.out.set ht (by decide) _).set (ht.set _ _) (by decide) _
       .exact (((((Ext.refl _).alloc _).alloc _).alloc _).drew.trans hE2.out |>.set (by simp<;>omega) _).set (by simp<;>omega) _
      .have hq1:(1:Int)<=q:=by omega
       have hm:Hid ((p:Int)%q=((p%q:Nat):Int)):=(Int.natCast_emod _ _).symm
       replace hp:=Ac hp
       have hq':=Ac hq
       clear hq
       go_wp2
       go_quiet (fail)
       go_wp2
       rw [hm.out]
       refine ⟨⟨⟨q,p%q,rfl,rfl,hq'.out,?_,?_⟩,hEw.out.drewN _⟩,?_⟩
       .have:=Nat.mod_lt p (show 0<q by omega)
        have:=hq'.out
        omega
       .have:=hg.out
        rw [<-this,Nat.gcd_comm p q,Nat.gcd_rec q p,Nat.gcd_comm]
       .have:=Nat.mod_lt p (show 0<q by omega)
        simp only [intOf]
        omega
    .have hlen1:(Am p).length<=4398046511104:=hl1
     have hrec:Hid (Nat.gcd q (p%q)=G):=by
      show _=G
      rw [<-hgc,Nat.gcd_comm p q,Nat.gcd_rec q p,Nat.gcd_comm]
     have hlr:Hid ((Am (p%q)).length<=4398046511104):=Bt (Nat.le_of_lt (Nat.mod_lt p (Nat.pos_of_ne_zero hq0))) hl2
     have hqv:Hid (val (Am q)≠0):=by show _≠0;rw [Ao];exact hq0
     have hlt:Hid (p%q<q):=Nat.mod_lt p (Nat.pos_of_ne_zero hq0)
     replace hW1:=Ac hW1
     replace hW2:=Ac hW2
     replace hEr:=Ac hEr
     replace hlen1:=Ac hlen1
     replace hl2:=Ac hl2
     clear en1 en2 hgc hl1 hq0
     have hdd:Hid (¬(n1<=2/\n2<=2)):=hsm
     clear hsm
     by_cases d1:n1<=2
     .have hd1:decide ((n1:Int)<=2)=true:=by simp; omega
      have hd2:decide ((n2:Int)<=2)=false:=by have:=hdd.out;simp;omega
      clear hdd
      go_wp2_with fail
      refine (GU _ _ _ _ _ hW1.out hW2.out hlen1.out hqv.out).mono ?_
      rintro e w2 ⟨A3,A4,n3,c3,n4,c4,rfl,hW3,hW4,hE2⟩
      rw [Ao,Ao] at hW4
      replace hW2:=Ac (hW2.out.ext hE2)
      replace hE2:=Ac (hEr.out.trans hE2)
      replace hW4:=Ac hW4
      clear hW3
      go_wp2
      go_roundg (p%q)
      case measure=>exact hlt.out
      case rel=>exact ⟨_,_,_,_,_,_,_,_,rfl,rfl,hW2.out,hW4.out,hrec.out,rfl,hl2.out,hlr.out,hE2.out⟩
     .have hd1:decide ((n1:Int)<=2)=false:=by simp; omega
      clear hdd
      go_wp2_with fail
      refine (GU _ _ _ _ _ hW1.out hW2.out hlen1.out hqv.out).mono ?_
      rintro e w2 ⟨A3,A4,n3,c3,n4,c4,rfl,hW3,hW4,hE2⟩
      rw [Ao,Ao] at hW4
      replace hW2:=Ac (hW2.out.ext hE2)
      replace hE2:=Ac (hEr.out.trans hE2)
      replace hW4:=Ac hW4
      clear hW3
      go_wp2
      go_roundg (p%q)
      case measure=>exact hlt.out
      case rel=>exact ⟨_,_,_,_,_,_,_,_,rfl,rfl,hW2.out,hW4.out,hrec.out,rfl,hl2.out,hlr.out,hE2.out⟩
def Oj(q r:Int)(w:World)(e:Ending)(w':World):Prop:=
 ∃(b b':Bool) (A A':Option Addr) (n c n' c':Nat),e = .returned (.tuple #[.agg #[.bool b,.slice A n c],.agg #[.bool b',.slice A' n' c'],.int .i64 0])/\IsInt w' (.bool b) (.slice A n c) q/\IsInt w' (.bool b') (.slice A' n' c') r/\Ext w w'
theorem KE{x y q r:Int}(hy:y≠0)(h:r+y*q=x)(h0:0<=r)(h1:r<y.natAbs):x/y=q/\x%y=r:=by
 rcases Int.lt_or_gt_of_ne hy with hneg | hpos
 .have:=(Int.ediv_emod_unique' (a:=x) (b:=y) (r:=r) (q:=q) hneg).2 ⟨h, h0, by omega⟩
  exact this
 .have:=(Int.ediv_emod_unique (a:=x) (b:=y) (r:=r) (q:=q) hpos).2 ⟨h, h0, by omega⟩
  exact this
theorem Rg{x y:Int}(hy:y≠0)(h:¬x<0\/x.natAbs%y.natAbs=0):x/y=Ge (!(decide (x<0)==decide (y<0))) (x.natAbs/y.natAbs)/\x%y=Ge false (x.natAbs%y.natAbs):=by
  have hyp:0<y.natAbs:=by omega
  have e:=Nat.div_add_mod x.natAbs y.natAbs
  have hlt:=Nat.mod_lt x.natAbs hyp
  generalize x.natAbs/y.natAbs=q at *
  generalize x.natAbs%y.natAbs=r at *
  have e':(y.natAbs:Int)*q+r=x.natAbs:=by exact_mod_cast e
  refine KE hy ?_ (by simp [Ge]) (by simp [Ge];omega)
  have hsx:=Je (z:=x)
  have hsy:=Je (z:=y)
  by_cases hx:x<0
  . have hr : r = 0 := by rcases h with h | h
                          . exact absurd hx h
                          . exact h
    subst hr
    by_cases hy2:y<0
    . have ex:(x.natAbs:Int) = -x:=by omega
      have ey:(y.natAbs:Int) = -y:=by omega
      rw [ex,ey] at e'
      simp [Ge,hx,hy2]
      rw [Int.neg_mul] at e'
      omega
    . have ex:(x.natAbs:Int) = -x:=by omega
      have ey:(y.natAbs:Int)=y:=by omega
      rw [ex,ey] at e'
      simp [Ge,hx,hy2]
      rw [Int.mul_neg]
      omega
  . by_cases hy2:y<0
    . have ex:(x.natAbs:Int)=x:=by omega
      have ey:(y.natAbs:Int) = -y:=by omega
      rw [ex,ey] at e'
      simp [Ge,hx,hy2]
      rw [Int.mul_neg]
      rw [Int.neg_mul] at e'
      omega
    . have ex:(x.natAbs:Int)=x:=by omega
      have ey:(y.natAbs:Int)=y:=by omega
      rw [ex,ey] at e'
      simp [Ge,hx,hy2]
      omega
theorem A1I{x y:Int}(hy:y≠0)(hx:x<0)(h:x.natAbs%y.natAbs≠0):x/y=Ge (!(decide (x<0)==decide (y<0))) (x.natAbs/y.natAbs+1)/\x%y=Ge false (y.natAbs-x.natAbs%y.natAbs):=by
 have hyp:0<y.natAbs:=by omega
 have e:=Nat.div_add_mod x.natAbs y.natAbs
 have hlt:=Nat.mod_lt x.natAbs hyp
 generalize x.natAbs/y.natAbs=q at *
 generalize x.natAbs%y.natAbs=r at *
 have e':(y.natAbs:Int)*q+r=x.natAbs:=by exact_mod_cast e
 refine KE hy ?_ (by simp [Ge]) (by simp [Ge];omega)
 have ex:(x.natAbs:Int) = -x:=by omega
 by_cases hy2:y<0
 .have ey:(y.natAbs:Int) = -y:=by omega
  have e2:((y.natAbs-r:Nat):Int) = -y-r:=by omega
  rw [ex,ey] at e'
  simp only [Ge,hx,hy2,decide_true,beq_self_eq_true,Bool.not_true,Bool.false_eq_true,if_false,e2,Int.natCast_add,Int.natCast_one,Int.mul_add,Int.mul_one]
  rw [Int.neg_mul] at e'
  omega
 .have ey:(y.natAbs:Int)=y:=by omega
  have e2:((y.natAbs-r:Nat):Int)=y-r:=by omega
  rw [ex,ey] at e'
  simp only [Ge,hx,hy2,decide_true,decide_false,Bool.false_eq_true,if_false,e2,Int.natCast_add,Int.natCast_one]
  simp only [show (true==false)=false from rfl,Bool.not_false,if_true,Int.mul_neg,Int.mul_add,Int.mul_one]
  omega
theorem Pn(b b':Bool)(A A':Option Addr)(n c n' c':Nat)(x y:Int)(w:World)(h:IsInt w (.bool b) (.slice A n c) x)(h':IsInt w (.bool b') (.slice A' n' c') y)(hn:(Am x.natAbs).length<=4398046511104)(hn':(Am y.natAbs).length<=4398046511104)(hy:y≠0)(hc:¬x<0\/x.natAbs%y.natAbs=0) :
  Calls Tryz.prog 126 #[.agg #[.bool b,.slice A n c],.agg #[.bool b',.slice A' n' c']] w (Oj (x/y) (x%y) w):=by
 have hd:=Ac h.bool_eq
 have hd':=Ac h'.bool_eq
 have hq:=Ac (Rg hy hc)
 have hy0:Hid (y.natAbs≠0):=by show _≠0;omega
 replace h:=Ac h
 replace h':=Ac h'
 replace hn:=Ac hn
 replace hn':=Ac hn'
 replace hc:=Ac hc
 go_enter Tryz.func126,Tryz.ntmps126
 go_wp2_with fail
 refine (Ck _ _ _ (h'.out.2.ext (((((Ext.refl _).alloc _).alloc _).alloc _).alloc _))).mono ?_
 rintro e w1 ⟨v1,rfl,hW1,hE1⟩
 rw [AM (Bk _),Ao] at hW1
 obtain ⟨A1,n1,c1,rfl⟩:=hW1.form
 have hn1:n1≠0:=by rw [hW1.len];exact λe=>hy0.out (AT.1 e)
 have hn1':((n1:Int)==0)=false:=by simpa using hn1
 clear hn1 hW1
 obtain ⟨hcell,hfr⟩:=hE1.cells
 replace hE1:=Ac hE1
 go_wp2_with fail
 refine (GU _ _ _ _ _ (h.out.2.ext ((((((Ext.refl _).alloc _).alloc _).alloc _).alloc _).trans hE1.out)) (h'.out.2.ext ((((((Ext.refl _).alloc _).alloc _).alloc _).alloc _).trans hE1.out)) hn.out (by rw [Ao];exact hy0.out)).mono ?_
 rintro e w2 ⟨A3,A4,n3,c3,n4,c4,rfl,hW3,hW4,hE2⟩
 rw [Ao,Ao] at hW3 hW4
 have hcond:Hid (b=false\/n4=0):=by
  rcases hc.out with hc | hc
  .left;rw [hd.out];simpa using hc
  .rw [hc] at hW4
   exact .inr (by rw [hW4.len,Bo];rfl)
 replace hE2:=Ac (hE1.out.trans hE2)
 clear hcell hfr
 obtain ⟨hcell,hfr⟩:=hE2.out.cells
 replace hW3:=Ac hW3
 replace hW4:=Ac hW4
 clear hn1'
 cases b with
 | false=>
  clear hcond
  go_wp2_with fail
  refine (Ca _ _ _ _ hW3.out).mono ?_
  rintro e w3 ⟨b5,A5,n5,c5,rfl,hI5,hE3⟩
  rw [Ao,show b' = !(decide (x<0)==decide (y<0)) by rw [<-hd.out,<-hd'.out];cases b'<;>rfl,<-hq.out.1] at hI5
  replace hW4:=Ac (hW4.out.ext hE3)
  replace hI5:=Ac hI5
  replace hE3:=Ac (hE2.out.trans hE3)
  clear hcell hfr
  obtain ⟨hcell,hfr⟩:=hE3.out.cells
  go_wp2_with fail
  refine (Ca _ _ _ _ hW4.out).mono ?_
  rintro e w4 ⟨b6,A6,n6,c6,rfl,hI6,hE4⟩
  rw [Ao,<-hq.out.2] at hI6
  replace hI5:=Ac (hI5.out.ext hE4)
  replace hI6:=Ac hI6
  replace hE4:=Ac (hE3.out.trans hE4)
  clear hcell hfr
  obtain ⟨hcell,hfr⟩:=hE4.out.cells
  go_wp2
  refine bodyPost_ret (v:=.tuple #[.agg #[.bool b5,.slice A5 n5 c5],.agg #[.bool b6,.slice A6 n6 c6],.int .i64 0]) (by simp [results,Tryz.results126,go_sem,hcell]) rfl ⟨_,_,_,_,_,_,_,_,rfl,?_,?_,?_⟩
  .have ht:Ty w4 (w.heap.size+2) 40:=((Br _ _ (by simp)).alloc _).ext hE4.out
   have ht':Ty w4 (w.heap.size+3) 40:=(Br _ _ (by simp)).ext hE4.out
   exact (((hI5.out.set ht (by decide) _).set (ht.set _ _) (by decide) _).set ((ht'.set _ _).set _ _) (by decide) _).set (((ht'.set _ _).set _ _).set _ _) (by decide) _
  .have ht:Ty w4 (w.heap.size+2) 40:=((Br _ _ (by simp)).alloc _).ext hE4.out
   have ht':Ty w4 (w.heap.size+3) 40:=(Br _ _ (by simp)).ext hE4.out
   exact (((hI6.out.set ht (by decide) _).set (ht.set _ _) (by decide) _).set ((ht'.set _ _).set _ _) (by decide) _).set (((ht'.set _ _).set _ _).set _ _) (by decide) _
  .exact ((((((((Ext.refl _).alloc _).alloc _).alloc _).alloc _).trans hE4.out |>.set (by simp<;>omega) _).set (by simp<;>omega) _).set (by simp<;>omega) _).set (by simp<;>omega) _
 | true=>
  obtain rfl:n4=0:=by
   rcases hcond.out with h0 | h0
   .cases h0
   .exact h0
  clear hcond
  go_wp2_with fail
  refine (Ca _ _ _ _ hW3.out).mono ?_
  rintro e w3 ⟨b5,A5,n5,c5,rfl,hI5,hE3⟩
  rw [Ao,show (!b') = !(decide (x<0)==decide (y<0)) by rw [<-hd.out,<-hd'.out];cases b'<;>rfl,<-hq.out.1] at hI5
  replace hW4:=Ac (hW4.out.ext hE3)
  replace hI5:=Ac hI5
  replace hE3:=Ac (hE2.out.trans hE3)
  clear hcell hfr
  obtain ⟨hcell,hfr⟩:=hE3.out.cells
  go_wp2_with fail
  refine (Ca _ _ _ _ hW4.out).mono ?_
  rintro e w4 ⟨b6,A6,n6,c6,rfl,hI6,hE4⟩
  rw [Ao,<-hq.out.2] at hI6
  replace hI5:=Ac (hI5.out.ext hE4)
  replace hI6:=Ac hI6
  replace hE4:=Ac (hE3.out.trans hE4)
  clear hcell hfr
  obtain ⟨hcell,hfr⟩:=hE4.out.cells
  go_wp2
  refine bodyPost_ret (v:=.tuple #[.agg #[.bool b5,.slice A5 n5 c5],.agg #[.bool b6,.slice A6 n6 c6],.int .i64 0]) (by simp [results,Tryz.results126,go_sem,hcell]) rfl ⟨_,_,_,_,_,_,_,_,rfl,?_,?_,?_⟩
  .have ht:Ty w4 (w.heap.size+2) 40:=((Br _ _ (by simp)).alloc _).ext hE4.out
   have ht':Ty w4 (w.heap.size+3) 40:=(Br _ _ (by simp)).ext hE4.out
   exact (((hI5.out.set ht (by decide) _).set (ht.set _ _) (by decide) _).set ((ht'.set _ _).set _ _) (by decide) _).set (((ht'.set _ _).set _ _).set _ _) (by decide) _
  .have ht:Ty w4 (w.heap.size+2) 40:=((Br _ _ (by simp)).alloc _).ext hE4.out
   have ht':Ty w4 (w.heap.size+3) 40:=(Br _ _ (by simp)).ext hE4.out
   exact (((hI6.out.set ht (by decide) _).set (ht.set _ _) (by decide) _).set ((ht'.set _ _).set _ _) (by decide) _).set (((ht'.set _ _).set _ _).set _ _) (by decide) _
  .exact ((((((((Ext.refl _).alloc _).alloc _).alloc _).alloc _).trans hE4.out |>.set (by simp<;>omega) _).set (by simp<;>omega) _).set (by simp<;>omega) _).set (by simp<;>omega) _
theorem Wn(b b':Bool)(A A':Option Addr)(n c n' c':Nat)(x y:Int)(w:World)(h:IsInt w (.bool b) (.slice A n c) x)(h':IsInt w (.bool b') (.slice A' n' c') y)(hn:(Am x.natAbs).length<=4398046511104)(hn':(Am y.natAbs).length<=4398046511104)(hy:y≠0)(hx:x<0)(hc:x.natAbs%y.natAbs≠0) :
  Calls Tryz.prog 126 #[.agg #[.bool b,.slice A n c],.agg #[.bool b',.slice A' n' c']] w (Oj (x/y) (x%y) w):=by
 have hd:=Ac h.bool_eq
 have hd':=Ac h'.bool_eq
 have hq:=Ac (A1I hy hx hc)
 have hy0:Hid (y.natAbs≠0):=by show _≠0;omega
 replace h:=Ac h
 replace h':=Ac h'
 replace hn:=Ac hn
 replace hn':=Ac hn'
 replace hc:=Ac hc
 replace hx:=Ac hx
 go_enter Tryz.func126,Tryz.ntmps126
 go_wp2_with fail
 refine (Ck _ _ _ (h'.out.2.ext (((((Ext.refl _).alloc _).alloc _).alloc _).alloc _))).mono ?_
 rintro e w1 ⟨v1,rfl,hW1,hE1⟩
 rw [AM (Bk _),Ao] at hW1
 obtain ⟨A1,n1,c1,rfl⟩:=hW1.form
 have hn1:n1≠0:=by rw [hW1.len];exact λe=>hy0.out (AT.1 e)
 have hn1':((n1:Int)==0)=false:=by simpa using hn1
 clear hn1 hW1
 obtain ⟨hcell,hfr⟩:=hE1.cells
 replace hE1:=Ac hE1
 go_wp2_with fail
 refine (GU _ _ _ _ _ (h.out.2.ext ((((((Ext.refl _).alloc _).alloc _).alloc _).alloc _).trans hE1.out)) (h'.out.2.ext ((((((Ext.refl _).alloc _).alloc _).alloc _).alloc _).trans hE1.out)) hn.out (by rw [Ao];exact hy0.out)).mono ?_
 rintro e w2 ⟨A3,A4,n3,c3,n4,c4,rfl,hW3,hW4,hE2⟩
 rw [Ao,Ao] at hW3 hW4
 have hn4:0<n4:=by
  rw [hW4.len]
  rcases Nat.eq_zero_or_pos (Am (x.natAbs%y.natAbs)).length with h0 | h0
  .exact absurd (AT.1 h0) hc.out
  .exact h0
 have hqn:Hid ((Am (x.natAbs/y.natAbs)).length<=4398046511104):=Bt (Nat.div_le_self _ _) hn.out
 have hrn:Hid (x.natAbs%y.natAbs<=y.natAbs):=Nat.le_of_lt (Nat.mod_lt _ (Nat.pos_of_ne_zero hy0.out))
 replace hE2:=Ac (hE1.out.trans hE2)
 clear hcell hfr
 obtain ⟨hcell,hfr⟩:=hE2.out.cells
 replace hW3:=Ac hW3
 replace hW4:=Ac hW4
 obtain rfl:b=true:=by rw [hd.out];simpa using hx.out
 have hdn:decide ((0:Int)<n4)=true:=by simp;omega
 clear hn1'
 have hone:Hid (Words (w2.alloc (.cells #[.int .u32 1] 108)) (.slice (some ⟨w2.heap.size,0,none⟩) 1 1) [1]):=Bu (l:=[1]) (c:=1) (Blk.new _ _ _) (λx hx=>by simp at hx;subst hx;exact Fk) (by simp) (by omega)
 go_wp2_with fail
 refine (TX _ _ _ _ _ (hW3.out.ext ((Ext.refl _).alloc _)) hone.out hqn.out (by simp)).mono ?_
 rintro e w3 ⟨v3,rfl,hW5,hE3⟩
 obtain ⟨A5',n5',c5',rfl⟩:=hW5.form
 have hW3:=hW5
 rw [Ao,show val [1]=1 from rfl] at hW3
 clear hW5 hone
 replace hE3:=((Ext.refl _).alloc _).trans hE3
 replace hW4:=Ac (hW4.out.ext hE3)
 replace hE2:=Ac (hE2.out.trans hE3)
 replace hW3:=Ac hW3
 clear hcell hfr hE3
 obtain ⟨hcell,hfr⟩:=hE2.out.cells
 go_wp2_with fail
 refine (FH _ _ _ _ _ (h'.out.2.ext ((((((Ext.refl _).alloc _).alloc _).alloc _).alloc _).trans hE2.out)) hW4.out (by rw [Ao,Ao];exact hrn.out) (BI hrn.out) hn'.out).mono ?_
 rintro e w4 ⟨v4,rfl,hW5,hE3⟩
 obtain ⟨A6',n6',c6',rfl⟩:=hW5.form
 replace hW3:=Ac (hW3.out.ext hE3)
 have hW4:=hW5
 rw [Ao,Ao] at hW4
 clear hW5
 replace hW4:=Ac hW4
 replace hE2:=Ac (hE2.out.trans hE3)
 clear hcell hfr hE3
 obtain ⟨hcell,hfr⟩:=hE2.out.cells
 go_wp2_with fail
 refine (Ca _ _ _ _ hW3.out).mono ?_
 rintro e w5 ⟨b5,A5,n5,c5,rfl,hI5,hE3⟩
 rw [Ao,show (!b') = !(decide (x<0)==decide (y<0)) by rw [<-hd.out,<-hd'.out];cases b'<;>rfl,<-hq.out.1] at hI5
 replace hW4:=Ac (hW4.out.ext hE3)
 replace hI5:=Ac hI5
 replace hE3:=Ac (hE2.out.trans hE3)
 clear hcell hfr
 obtain ⟨hcell,hfr⟩:=hE3.out.cells
 go_wp2_with fail
 refine (Ca _ _ _ _ hW4.out).mono ?_
 rintro e w6 ⟨b6,A6,n6,c6,rfl,hI6,hE4⟩
 rw [Ao,<-hq.out.2] at hI6
 replace hI5:=Ac (hI5.out.ext hE4)
 replace hI6:=Ac hI6
 replace hE4:=Ac (hE3.out.trans hE4)
 clear hcell hfr
 obtain ⟨hcell,hfr⟩:=hE4.out.cells
 go_wp2
 refine bodyPost_ret (v:=.tuple #[.agg #[.bool b5,.slice A5 n5 c5],.agg #[.bool b6,.slice A6 n6 c6],.int .i64 0]) (by simp [results,Tryz.results126,go_sem,hcell]) rfl ⟨_,_,_,_,_,_,_,_,rfl,?_,?_,?_⟩
 .have ht:Ty w6 (w.heap.size+2) 40:=((Br _ _ (by simp)).alloc _).ext hE4.out
  have ht':Ty w6 (w.heap.size+3) 40:=(Br _ _ (by simp)).ext hE4.out
  exact (((hI5.out.set ht (by decide) _).set (ht.set _ _) (by decide) _).set ((ht'.set _ _).set _ _) (by decide) _).set (((ht'.set _ _).set _ _).set _ _) (by decide) _
 .have ht:Ty w6 (w.heap.size+2) 40:=((Br _ _ (by simp)).alloc _).ext hE4.out
  have ht':Ty w6 (w.heap.size+3) 40:=(Br _ _ (by simp)).ext hE4.out
  exact (((hI6.out.set ht (by decide) _).set (ht.set _ _) (by decide) _).set ((ht'.set _ _).set _ _) (by decide) _).set (((ht'.set _ _).set _ _).set _ _) (by decide) _
 .exact ((((((((Ext.refl _).alloc _).alloc _).alloc _).alloc _).trans hE4.out |>.set (by simp<;>omega) _).set (by simp<;>omega) _).set (by simp<;>omega) _).set (by simp<;>omega) _
theorem Mw(b b':Bool)(A A':Option Addr)(n c n' c':Nat)(x y:Int)(w:World)(h:IsInt w (.bool b) (.slice A n c) x)(h':IsInt w (.bool b') (.slice A' n' c') y)(hn:(Am x.natAbs).length<=4398046511104)(hn':(Am y.natAbs).length<=4398046511104)(hy:y≠0) :
  Calls Tryz.prog 126 #[.agg #[.bool b,.slice A n c],.agg #[.bool b',.slice A' n' c']] w (Oj (x/y) (x%y) w):=by
 by_cases hc:¬x<0\/x.natAbs%y.natAbs=0
 .exact Pn b b' A A' n c n' c' x y w h h' hn hn' hy hc
 .exact Wn b b' A A' n c n' c' x y w h h' hn hn' hy (by omega) (by omega)
theorem IsInt.one{w:World}{b:Bool}{A:Option Addr}{n c:Nat}{z:Int}(h:IsInt w (.bool b) (.slice A n c) z)(h1:z=1):b=false/\n=1/\∃g o,A=some ⟨g,o,none⟩/\w.cell? ⟨g,o,none⟩=some (.int .u32 1):=by
 subst h1
 have hd:Am (1:Int).natAbs=[1]:=by
  show Am 1=[1]
  rw [DG (by omega)]
  have:(1:Nat)%BB=1:=Nat.mod_eq_of_lt Fk
  have h2:(1:Nat)/BB=0:=Nat.div_eq_of_lt Fk
  rw [this,h2,Bo]
 have h2:=h.2
 rw [hd] at h2
 obtain ⟨A',c',hv,_,_,hx⟩:=h2.open_
 injection hv with e1 e2 e3
 subst e1;subst e3
 obtain ⟨g,o,hA,_,hc⟩:=hx (by simp)
 exact ⟨h.bool_eq,e2,g,o,hA,hc 0 (by simp)⟩
theorem Cq(b:Bool)(A:Option Addr)(n c:Nat)(z:Int)(w:World)(h:IsInt w (.bool b) (.slice A n c) z) :
  Calls Tryz.prog 95 #[.agg #[.bool b,.slice A n c]] w λe w'=>e = .returned (.bool (decide (z=1)))/\Ext w w':=by
 cases b with
 | true=>
  have hz:Hid (decide (z=1)=false):=by
   have:=h.bool_eq
   show _=false
   simp at this ⊢
   omega
  clear h
  go_enter Tryz.func95,Tryz.ntmps95
  go_wp2
  go_ret
  exact ⟨by rw [hz.out];rfl,(Ext.refl _).alloc _⟩
 | false=>
  by_cases hn:n=1
  .subst hn
   have h2:=h.2
   have hl:=h2.len
   obtain ⟨t,ht⟩:∃t,Am z.natAbs=[t]:=by
    match hd:Am z.natAbs,hl with
    | [t],_=>exact ⟨t,rfl⟩
   rw [ht] at h2
   obtain ⟨A',c',hv,hc,hm,hx⟩:=h2.open_
   injection hv with e1 e2 e3
   subst e1;subst e3
   obtain ⟨g,o,rfl,hg,hcell⟩:=hx (by simp)
   replace hcell:w.cell? ⟨g,o,none⟩=some (.int .u32 (t:Nat)):=hcell 0 (by simp)
   have hzt:Hid (z=(t:Nat)):=by
    have h3:z.natAbs=t:=by rw [<-Ao z.natAbs,ht];simp [val]
    have h4:=h.bool_eq
    simp at h4
    show z=t
    omega
   have hne:w.heap.size≠g:=by omega
   clear hx h2 h hl e2
   replace ht:=Ac ht
   by_cases h1:t=1
   .subst h1
    go_enter Tryz.func95,Tryz.ntmps95
    go_wp2
    go_ret
    exact ⟨by rw [hzt.out];rfl,(Ext.refl _).alloc _⟩
   .have hb1:((t:Int)==1)=false:=by simp; omega
    go_enter Tryz.func95,Tryz.ntmps95
    go_wp2
    go_ret
    refine ⟨?_,(Ext.refl _).alloc _⟩
    have:decide (z=1)=false:=by rw [hzt.out];simp;omega
    rw [this];rfl
  .have hz:Hid (decide (z=1)=false):=by
    show _=false
    simp only [decide_eq_false_iff_not]
    intro e
    exact hn (h.one e).2.1
   have hb1:((n:Int)==1)=false:=by simp;omega
   clear h
   go_enter Tryz.func95,Tryz.ntmps95
   go_wp2
   go_ret
   exact ⟨by rw [hz.out];rfl,(Ext.refl _).alloc _⟩
def A1k(w wr:World)(g:Nat)(z:Int):Prop:=∃(b:Bool) (A:Option Addr) (n c:Nat),Blk wr g 40 #[.bool b,.slice A n c]/\IsInt wr (.bool b) (.slice A n c) z/\Ext w wr
theorem BZ{x y:Int}{N M:Nat}(hx:(Am x.natAbs).length<=N)(hy:(Am y.natAbs).length<=M):(Am (x*y).natAbs).length<=N+M:=by
 have h1:=DE hx
 have h2:=DE hy
 have h3:(x*y).natAbs<BB^(N+M):=by
  rw [Int.natAbs_mul,Nat.pow_add]
  rcases Nat.eq_zero_or_pos y.natAbs with h0 | h0
  .rw [h0,Nat.mul_zero];exact Nat.mul_pos (Nat.pow_pos BP) (Nat.pow_pos BP)
  .exact Nat.mul_lt_mul_of_lt_of_le h1 (Nat.le_of_lt h2) (Nat.pow_pos BP)
 exact Ei h3
theorem Gu(g:Nat)(b b':Bool)(A A':Option Addr)(n c n' c':Nat)(x y:Int)(w:World)(hB:Blk w g 40 #[.bool b,.slice A n c,.bool b',.slice A' n' c'])(h:IsInt w (.bool b) (.slice A n c) x)(h':IsInt w (.bool b') (.slice A' n' c') y)
  (hn:(Am x.natAbs).length<=4398046511104) (hn':(Am y.natAbs).length<=4398046511104) :
  Calls Tryz.prog 98 #[.slice (some ⟨g,0,none⟩) 2 2] w (Dd (x*y) w):=by
 have hg:=Blk.lt hB
 replace hB:=Ac hB
 replace h:=Ac h
 replace h':=Ac h'
 replace hn:=Ac hn
 replace hn':=Ac hn'
 go_enter Tryz.func98,Tryz.ntmps98
 go_wp2_with fail
 refine (Yw 1 _ (by omega) (by omega)).mono ?_
 rintro e w1 ⟨b1,A1,n1,c1,rfl,hI1,hE1⟩
 replace hI1:=Ac hI1
 obtain ⟨hcell,hfr⟩:=hE1.cells
 replace hE1:=Ac hE1
 have hsz:w.heap.size<w1.heap.size:=by have:=hE1.out.size;simp at this;omega
 go_wp2
 go_loopw [9] (λi wr=>∃k:Nat,k<=2/\i = .int .i64 k/\Hid (A1k w wr w1.heap.size (if k=0 then 1 else if k=1 then x else x*y)/\Blk wr w.heap.size 40 #[.bool false,.slice none 0 0])) (λi _=>2-(intOf i).toNat)
 case atStart=>exact ⟨0,by omega,rfl,⟨b1,A1,n1,c1,Blk.new _ _ _,hI1.out.ext ((Ext.refl _).alloc _),((Ext.refl _).alloc _).trans (hE1.out.alloc _)⟩,((Blk.new w _ _).ext hE1.out).alloc _⟩
 case round=>
  obtain ⟨k,hk,rfl,hR⟩:=hrel
  clear hcell hfr hI1
  rcases (show k=0\/k=1\/k=2 by omega) with rfl | rfl | rfl
  .obtain ⟨⟨b3,A3,n3,c3,hB3,hI3,hE3⟩,hB4⟩:=hR.out
   have hBg:Blk wr g 40 #[.bool b,.slice A n c,.bool b',.slice A' n' c']:=hB.out.ext hE3
   have q0:wr.cell? ⟨g,0,none⟩=some (.bool b):=hBg.cell 0
   have q1:wr.cell? ⟨g,1,none⟩=some (.slice A n c):=hBg.cell 1
   have r0:wr.cell? ⟨w1.heap.size,0,none⟩=some (.bool b3):=hB3.cell 0
   have r1:wr.cell? ⟨w1.heap.size,1,none⟩=some (.slice A3 n3 c3):=hB3.cell 1
   have r2:=hB3.frozen 0
   have r3:=hB3.frozen 1
   have z1:=Blk.lt hB3
   have z2:=Blk.lt hBg
   have hIx:=h.out.ext hE3
   obtain ⟨zp,hzp⟩:∃zp:Int,zp=(if (0:Nat)=0 then (1:Int) else if (0:Nat)=1 then x else x*y):=⟨_,rfl⟩
   rw [<-hzp] at hI3
   replace hzp:=Ac hzp
   replace hI3:=Ac hI3
   replace hB3:=Ac hB3
   replace hB4:=Ac hB4
   replace hBg:=Ac hBg
   replace hIx:=Ac hIx
   replace hE3:=Ac hE3
   clear hR
   by_cases hx1:x=1
   .have hxd:decide (x=1)=true:=by simpa using hx1
    replace hx1:=Ac hx1
    go_wp2_with fail
    refine (Cq _ _ _ _ _ _ (hIx.out.ext ((Ext.refl _).alloc _))).mono ?_
    rintro e w2 ⟨rfl,hE4⟩
    replace hE4:=((Ext.refl _).alloc _).trans hE4
    replace hE4:=Ac hE4
    go_wp2
    refine ⟨⟨1,by omega,rfl,⟨b3,A3,n3,c3,hB3.out.ext hE4.out,?_,hE3.out.trans hE4.out⟩,hB4.out.ext hE4.out⟩,by simp [intOf]⟩
    have e1:(if (1:Nat)=0 then (1:Int) else if (1:Nat)=1 then x else x*y:Int)=zp*x:=by rw [hzp.out];simp
    have:=hI3.out.ext hE4.out
    show IsInt w2 _ _ (if (1:Nat)=0 then (1:Int) else if (1:Nat)=1 then x else x*y)
    rw [e1,hx1.out,Int.mul_one]
    exact this
   .have hxd:decide (x=1)=false:=by simpa using hx1
    replace hx1:=Ac hx1
    by_cases hz1:zp=1
    .have hzd:decide (zp=1)=true:=by simpa using hz1
     replace hz1:=Ac hz1
     go_wp2_with fail
     refine (Cq _ _ _ _ _ _ (hIx.out.ext ((Ext.refl _).alloc _))).mono ?_
     rintro e w2 ⟨rfl,hE4⟩
     obtain ⟨hcell4,hfr4⟩:=hE4.cells
     have s4:=hE4.size
     simp at s4
     replace hE4:=Ac hE4
     go_wp2_with fail
     refine (Cq _ _ _ _ _ _ (hI3.out.ext (((Ext.refl _).alloc _).trans hE4.out))).mono ?_
     rintro e w3 ⟨rfl,hE5⟩
     clear hcell4 hfr4
     replace hE5:=Ac (hE4.out.trans hE5)
     obtain ⟨hcell5,hfr5⟩:=hE5.out.cells
     have s5:=hE5.out.size
     simp at s5
     go_wp2
     have hEw:=((Ext.refl _).alloc _).trans hE5.out
     have hB5:=hB3.out.ext hEw
     have ht:=hB5.ty
     refine ⟨⟨1,by omega,rfl,⟨_,_,_,_,(hB5.set 0 _).set 1 _,?_,?_⟩,?_⟩,by simp [intOf]⟩
     .have e1:(if (1:Nat)=0 then (1:Int) else if (1:Nat)=1 then x else x*y:Int)=zp*x:=by rw [hzp.out]; simp
      show IsInt _ _ _ (if (1:Nat)=0 then (1:Int) else if (1:Nat)=1 then x else x*y)
      rw [e1,hz1.out,Int.one_mul]
      exact ((hIx.out.ext hEw).set ht (by decide) _).set (ht.set _ _) (by decide) _
     .exact ((hE3.out.trans hEw).set (by show w.heap.size<=w1.heap.size;omega) _).set (by show w.heap.size<=w1.heap.size;omega) _
     .exact ((hB4.out.ext hEw).far (by simp;omega) _).far (by simp;omega) _
    .have hzd:decide (zp=1)=false:=by simpa using hz1
     replace hz1:=Ac hz1
     go_wp2_with fail
     refine (Cq _ _ _ _ _ _ (hIx.out.ext ((Ext.refl _).alloc _))).mono ?_
     rintro e w2 ⟨rfl,hE4⟩
     obtain ⟨hcell4,hfr4⟩:=hE4.cells
     have s4:=hE4.size
     simp at s4
     replace hE4:=Ac hE4
     go_wp2_with fail
     refine (Cq _ _ _ _ _ _ (hI3.out.ext (((Ext.refl _).alloc _).trans hE4.out))).mono ?_
     rintro e w3 ⟨rfl,hE5⟩
     clear hcell4 hfr4
     replace hE5:=Ac (hE4.out.trans hE5)
     obtain ⟨hcell5,hfr5⟩:=hE5.out.cells
     have s5:=hE5.out.size
     simp at s5
     have hEw:=((Ext.refl _).alloc _).trans hE5.out
     replace hEw:=Ac hEw
     go_wp2_with fail
     refine (OY _ _ _ _ _ _ _ _ _ _ _ (hI3.out.ext hEw.out) (hIx.out.ext hEw.out) (by rw [hzp.out];show (Am 1).length<=_;have:=Ei (x:=1) (k:=1) (by rw [Nat.pow_one];exact Fk);omega) hn.out).mono ?_
     rintro e w4 ⟨b6,A6,n6,c6,rfl,hI6,hE6⟩
     clear hcell5 hfr5
     have hE7:=Ac (hE5.out.trans hE6)
     replace hEw:=Ac (hEw.out.trans hE6)
     obtain ⟨hcell7,hfr7⟩:=hE7.out.cells
     replace hI6:=Ac hI6
     have s7:=hE7.out.size
     simp at s7
     go_wp2
     have hB5:=hB3.out.ext hEw.out
     have ht:=hB5.ty
     refine ⟨⟨1,by omega,rfl,⟨_,_,_,_,(hB5.set 0 _).set 1 _,?_,?_⟩,?_⟩,by simp [intOf]⟩
     .have e1:(if (1:Nat)=0 then (1:Int) else if (1:Nat)=1 then x else x*y:Int)=zp*x:=by rw [hzp.out]; simp
      show IsInt _ _ _ (if (1:Nat)=0 then (1:Int) else if (1:Nat)=1 then x else x*y)
      rw [e1]
      exact (hI6.out.set ht (by decide) _).set (ht.set _ _) (by decide) _
     .exact ((hE3.out.trans hEw.out).set (by show w.heap.size<=w1.heap.size;omega) _).set (by show w.heap.size<=w1.heap.size;omega) _
     .exact ((hB4.out.ext hEw.out).far (by simp;omega) _).far (by simp;omega) _
  .obtain ⟨⟨b3,A3,n3,c3,hB3,hI3,hE3⟩,hB4⟩:=hR.out
   have hBg:Blk wr g 40 #[.bool b,.slice A n c,.bool b',.slice A' n' c']:=hB.out.ext hE3
   have q0:wr.cell? ⟨g,2,none⟩=some (.bool b'):=hBg.cell 2
   have q1:wr.cell? ⟨g,3,none⟩=some (.slice A' n' c'):=hBg.cell 3
   have r0:wr.cell? ⟨w1.heap.size,0,none⟩=some (.bool b3):=hB3.cell 0
   have r1:wr.cell? ⟨w1.heap.size,1,none⟩=some (.slice A3 n3 c3):=hB3.cell 1
   have r2:=hB3.frozen 0
   have r3:=hB3.frozen 1
   have z1:=Blk.lt hB3
   have z2:=Blk.lt hBg
   have hIx:=h'.out.ext hE3
   obtain ⟨zp,hzp⟩:∃zp:Int,zp=(if (1:Nat)=0 then (1:Int) else if (1:Nat)=1 then x else x*y):=⟨_,rfl⟩
   rw [<-hzp] at hI3
   replace hzp:=Ac hzp
   replace hI3:=Ac hI3
   replace hB3:=Ac hB3
   replace hB4:=Ac hB4
   replace hBg:=Ac hBg
   replace hIx:=Ac hIx
   replace hE3:=Ac hE3
   clear hR
   by_cases hx1:y=1
   .have hxd:decide (y=1)=true:=by simpa using hx1
    replace hx1:=Ac hx1
    go_wp2_with fail
    refine (Cq _ _ _ _ _ _ (hIx.out.ext ((Ext.refl _).alloc _))).mono ?_
    rintro e w2 ⟨rfl,hE4⟩
    replace hE4:=((Ext.refl _).alloc _).trans hE4
    replace hE4:=Ac hE4
    go_wp2
    refine ⟨⟨2,by omega,rfl,⟨b3,A3,n3,c3,hB3.out.ext hE4.out,?_,hE3.out.trans hE4.out⟩,hB4.out.ext hE4.out⟩,by simp [intOf]⟩
    have e1:(if (2:Nat)=0 then (1:Int) else if (2:Nat)=1 then x else x*y:Int)=zp*y:=by rw [hzp.out];simp
    have:=hI3.out.ext hE4.out
    show IsInt w2 _ _ (if (2:Nat)=0 then (1:Int) else if (2:Nat)=1 then x else x*y)
    rw [e1,hx1.out,Int.mul_one]
    exact this
   .have hxd:decide (y=1)=false:=by simpa using hx1
    replace hx1:=Ac hx1
    by_cases hz1:zp=1
    .have hzd:decide (zp=1)=true:=by simpa using hz1
     replace hz1:=Ac hz1
     go_wp2_with fail
     refine (Cq _ _ _ _ _ _ (hIx.out.ext ((Ext.refl _).alloc _))).mono ?_
     rintro e w2 ⟨rfl,hE4⟩
     obtain ⟨hcell4,hfr4⟩:=hE4.cells
     have s4:=hE4.size
     simp at s4
     replace hE4:=Ac hE4
     go_wp2_with fail
     refine (Cq _ _ _ _ _ _ (hI3.out.ext (((Ext.refl _).alloc _).trans hE4.out))).mono ?_
     rintro e w3 ⟨rfl,hE5⟩
     clear hcell4 hfr4
     replace hE5:=Ac (hE4.out.trans hE5)
     obtain ⟨hcell5,hfr5⟩:=hE5.out.cells
     have s5:=hE5.out.size
     simp at s5
     go_wp2
     have hEw:=((Ext.refl _).alloc _).trans hE5.out
     have hB5:=hB3.out.ext hEw
     have ht:=hB5.ty
     refine ⟨⟨2,by omega,rfl,⟨_,_,_,_,(hB5.set 0 _).set 1 _,?_,?_⟩,?_⟩,by simp [intOf]⟩
     .have e1:(if (2:Nat)=0 then (1:Int) else if (2:Nat)=1 then x else x*y:Int)=zp*y:=by rw [hzp.out]; simp
      show IsInt _ _ _ (if (2:Nat)=0 then (1:Int) else if (2:Nat)=1 then x else x*y)
      rw [e1,hz1.out,Int.one_mul]
      exact ((hIx.out.ext hEw).set ht (by decide) _).set (ht.set _ _) (by decide) _
     .exact ((hE3.out.trans hEw).set (by show w.heap.size<=w1.heap.size;omega) _).set (by show w.heap.size<=w1.heap.size;omega) _
     .exact ((hB4.out.ext hEw).far (by simp;omega) _).far (by simp;omega) _
    .have hzd:decide (zp=1)=false:=by simpa using hz1
     replace hz1:=Ac hz1
     go_wp2_with fail
     refine (Cq _ _ _ _ _ _ (hIx.out.ext ((Ext.refl _).alloc _))).mono ?_
     rintro e w2 ⟨rfl,hE4⟩
     obtain ⟨hcell4,hfr4⟩:=hE4.cells
     have s4:=hE4.size
     simp at s4
     replace hE4:=Ac hE4
     go_wp2_with fail
     refine (Cq _ _ _ _ _ _ (hI3.out.ext (((Ext.refl _).alloc _).trans hE4.out))).mono ?_
     rintro e w3 ⟨rfl,hE5⟩
     clear hcell4 hfr4
     replace hE5:=Ac (hE4.out.trans hE5)
     obtain ⟨hcell5,hfr5⟩:=hE5.out.cells
     have s5:=hE5.out.size
     simp at s5
     have hEw:=((Ext.refl _).alloc _).trans hE5.out
     replace hEw:=Ac hEw
     go_wp2_with fail
     refine (OY _ _ _ _ _ _ _ _ _ _ _ (hI3.out.ext hEw.out) (hIx.out.ext hEw.out) (by rw [hzp.out];exact hn.out) hn'.out).mono ?_
     rintro e w4 ⟨b6,A6,n6,c6,rfl,hI6,hE6⟩
     clear hcell5 hfr5
     have hE7:=Ac (hE5.out.trans hE6)
     replace hEw:=Ac (hEw.out.trans hE6)
     obtain ⟨hcell7,hfr7⟩:=hE7.out.cells
     replace hI6:=Ac hI6
     have s7:=hE7.out.size
     simp at s7
     go_wp2
     have hB5:=hB3.out.ext hEw.out
     have ht:=hB5.ty
     refine ⟨⟨2,by omega,rfl,⟨_,_,_,_,(hB5.set 0 _).set 1 _,?_,?_⟩,?_⟩,by simp [intOf]⟩
     .have e1:(if (2:Nat)=0 then (1:Int) else if (2:Nat)=1 then x else x*y:Int)=zp*y:=by rw [hzp.out]; simp
      show IsInt _ _ _ (if (2:Nat)=0 then (1:Int) else if (2:Nat)=1 then x else x*y)
      rw [e1]
      exact (hI6.out.set ht (by decide) _).set (ht.set _ _) (by decide) _
     .exact ((hE3.out.trans hEw.out).set (by show w.heap.size<=w1.heap.size;omega) _).set (by show w.heap.size<=w1.heap.size;omega) _
     .exact ((hB4.out.ext hEw.out).far (by simp;omega) _).far (by simp;omega) _
  .obtain ⟨⟨b3,A3,n3,c3,hB3,hI3,hE3⟩,hB4⟩:=hR.out
   have r0:wr.cell? ⟨w1.heap.size,0,none⟩=some (.bool b3):=hB3.cell 0
   have r1:wr.cell? ⟨w1.heap.size,1,none⟩=some (.slice A3 n3 c3):=hB3.cell 1
   have r2:wr.cell? ⟨w.heap.size,0,none⟩=some (.bool false):=hB4.cell 0
   have r3:wr.cell? ⟨w.heap.size,1,none⟩=some (.slice none 0 0):=hB4.cell 1
   have r4:=hB4.frozen 0
   have r5:=hB4.frozen 1
   have ht:=Ac hB4.ty
   have hZ:Hid ((if (2:Nat)=0 then (1:Int) else if (2:Nat)=1 then x else x*y)=x*y):=rfl
   simp only [hZ.out] at hI3
   replace hI3:=Ac hI3
   replace hE3:=Ac hE3
   clear hR hB3 hB4
   go_wp2
   refine bodyPost_ret (v:=.agg #[.bool b3,.slice A3 n3 c3]) (by simp [results,Tryz.results98,go_sem,r2,r3]) rfl ⟨_,_,_,_,rfl,?_,?_⟩
   .exact (hI3.out.set ht.out (by decide) _).set (ht.out.set _ _) (by decide) _
   .exact (hE3.out.set (by simp) _).set (by simp) _
theorem Cv{x y:Int}(hy:0<y):(Rat.divInt x y).num=x/(Nat.gcd x.natAbs y.natAbs:Int)/\((Rat.divInt x y).den:Int)=y/(Nat.gcd x.natAbs y.natAbs:Int):=by
 obtain ⟨d,rfl⟩:=Int.eq_ofNat_of_zero_le (Int.le_of_lt hy)
 have hd:d≠0:=by omega
 have:Rat.divInt x (d:Int)=mkRat x d:=rfl
 rw [this,<-Rat.normalize_eq_mkRat hd,Rat.normalize_eq hd]
 exact ⟨rfl,by simp [Int.natCast_ediv]⟩
theorem JX(a b:Rat):(a*b).num=(Rat.divInt a.num b.den).num*(Rat.divInt b.num a.den).num/\(a*b).den=(Rat.divInt a.num b.den).den*(Rat.divInt b.num a.den).den:=by
 have h1:=Cv (x:=a.num) (y:=b.den) (by have:=b.den_nz;omega)
 have h2:=Cv (x:=b.num) (y:=a.den) (by have:=a.den_nz;omega)
 have e:a*b=Rat.mul a b:=rfl
 rw [e]
 unfold Rat.mul
 dsimp only
 rw [Int.divExact_eq_ediv,Int.divExact_eq_ediv,Nat.divExact_eq_div,Nat.divExact_eq_div]
 refine ⟨by rw [h1.1,h2.1];rfl,?_⟩
 have e1:(Rat.divInt a.num b.den).den=b.den/Nat.gcd a.num.natAbs b.den:=by
  have:=h1.2;simp at this;exact_mod_cast this
 have e2:(Rat.divInt b.num a.den).den=a.den/Nat.gcd b.num.natAbs a.den:=by
  have:=h2.2;simp at this;exact_mod_cast this
 rw [e1,e2,Nat.mul_comm]
theorem Kl(a b:Rat):a+b=Rat.divInt (a.num*b.den+b.num*a.den) ((a.den:Int)*b.den):=by
 rw [Rat.add_def,Rat.normalize_eq_mkRat]
 have:((a.den:Int)*b.den)=((a.den*b.den:Nat):Int):=by simp
 rw [this];rfl
theorem Iq(a:Rat)(h:0<a.num):a⁻¹.num=a.den/\(a⁻¹.den:Int)=a.num:=by
 rw [Rat.inv_def]
 have h1:=Cv (x:=a.den) (y:=a.num) h
 have h2:Nat.gcd ((a.den:Int).natAbs) a.num.natAbs=1:=by simpa [Nat.gcd_comm] using a.reduced.symm
 rw [h2] at h1
 simpa using h1
theorem Ir(a:Rat)(h:a.num<0):a⁻¹.num = -(a.den:Int)/\(a⁻¹.den:Int) = -a.num:=by
 rw [Rat.inv_def,<-Rat.neg_divInt_neg]
 have h1:=Cv (x:=-(a.den:Int)) (y:=-a.num) (by omega)
 have h2:Nat.gcd ((-(a.den:Int)).natAbs) (-a.num).natAbs=1:=by simpa [Nat.gcd_comm] using a.reduced.symm
 rw [h2] at h1
 simpa using h1
theorem Mx(x:Int):(Rat.divInt x 1).num=x/\((Rat.divInt x 1).den:Int)=1:=by
 have h1:=Cv (x:=x) (y:=1) (by omega)
 simpa using h1
theorem My{x y:Int}(hy:0<y)(h:Nat.gcd x.natAbs y.natAbs=1):(Rat.divInt x y).num=x/\((Rat.divInt x y).den:Int)=y:=by
 have h1:=Cv (x:=x) hy
 rw [h] at h1
 simpa using h1
def IsRat(w:World)(c0 c1 c2 c3:Value)(q:Rat):Prop:=IsInt w c0 c1 q.num/\IsInt w c2 c3 (q.den:Int)
theorem IsRat.ext{w w':World}{c0 c1 c2 c3:Value}{q:Rat}(h:IsRat w c0 c1 c2 c3 q)(he:Ext w w'):IsRat w' c0 c1 c2 c3 q:=⟨h.1.ext he,h.2.ext he⟩
theorem IsRat.set{w:World}{c0 c1 c2 c3:Value}{q:Rat}(h:IsRat w c0 c1 c2 c3 q){p:Addr}{t:TypeId}(ht:Ty w p.block t)(hne:t≠108)(u:Value):IsRat (w.setCell p u) c0 c1 c2 c3 q:=⟨h.1.set ht hne u,h.2.set ht hne u⟩
def put2(w:World)(b:Nat)(u0 u1:Value):World:=(w.setCell ⟨b,0,none⟩ u0).setCell ⟨b,1,none⟩ u1
def put4(w:World)(b:Nat)(u0 u1 u2 u3:Value):World:=(((w.setCell ⟨b,0,none⟩ u0).setCell ⟨b,1,none⟩ u1).setCell ⟨b,2,none⟩ u2).setCell ⟨b,3,none⟩ u3
theorem Uo(w:World)(b:Nat)(u0 u1:Value):(w.setCell ⟨b,0,none⟩ u0).setCell ⟨b,1,none⟩ u1=put2 w b u0 u1:=rfl
theorem Ty.put2{w:World}{b:Nat}{t:TypeId}(h:Ty w b t)(c:Nat)(u0 u1:Value):Ty (put2 w c u0 u1) b t:=(h.set _ _).set _ _
theorem IsInt.put2{w:World}{c0 c1:Value}{z:Int}(h:IsInt w c0 c1 z){b:Nat}{t:TypeId}(ht:Ty w b t)(hne:t≠108)(u0 u1:Value):IsInt (put2 w b u0 u1) c0 c1 z:=(h.set (p:=⟨b,0,none⟩) ht hne _).set (p:=⟨b,1,none⟩) (ht.set _ _) hne _
theorem IsInt.put4{w:World}{c0 c1:Value}{z:Int}(h:IsInt w c0 c1 z){b:Nat}{t:TypeId}(ht:Ty w b t)(hne:t≠108)(u0 u1 u2 u3:Value):IsInt (put4 w b u0 u1 u2 u3) c0 c1 z:=
 ((((h.set (p:=⟨b,0,none⟩) ht hne _).set (p:=⟨b,1,none⟩) (ht.set _ _) hne _).set (p:=⟨b,2,none⟩) ((ht.set _ _).set _ _) hne _).set (p:=⟨b,3,none⟩) (((ht.set _ _).set _ _).set _ _) hne _)
theorem IsRat.put2{w:World}{c0 c1 c2 c3:Value}{q:Rat}(h:IsRat w c0 c1 c2 c3 q){b:Nat}{t:TypeId}(ht:Ty w b t)(hne:t≠108)(u0 u1:Value):IsRat (put2 w b u0 u1) c0 c1 c2 c3 q:=⟨h.1.put2 ht hne u0 u1,h.2.put2 ht hne u0 u1⟩
theorem IsRat.put4{w:World}{c0 c1 c2 c3:Value}{q:Rat}(h:IsRat w c0 c1 c2 c3 q){b:Nat}{t:TypeId}(ht:Ty w b t)(hne:t≠108)(u0 u1 u2 u3:Value):IsRat (put4 w b u0 u1 u2 u3) c0 c1 c2 c3 q:=⟨h.1.put4 ht hne u0 u1 u2 u3,h.2.put4 ht hne u0 u1 u2 u3⟩
theorem Ext.put2{w w1:World}(h:Ext w w1){b:Nat}(hb:w.heap.size<=b)(u0 u1:Value):Ext w (put2 w1 b u0 u1):=(h.set (p:=⟨b,0,none⟩) hb _).set (p:=⟨b,1,none⟩) hb _
theorem Ext.put4{w w1:World}(h:Ext w w1){b:Nat}(hb:w.heap.size<=b)(u0 u1 u2 u3:Value):Ext w (put4 w1 b u0 u1 u2 u3):=(((h.set (p:=⟨b,0,none⟩) hb _).set (p:=⟨b,1,none⟩) hb _).set (p:=⟨b,2,none⟩) hb _).set (p:=⟨b,3,none⟩) hb _
def ES(q:Rat)(w:World)(e:Ending)(w':World):Prop:=
 ∃(b b':Bool) (A A':Option Addr) (n c n' c':Nat),e = .returned (.agg #[.bool b,.slice A n c,.bool b',.slice A' n' c'])/\IsRat w' (.bool b) (.slice A n c) (.bool b') (.slice A' n' c') q/\Ext w w'
def RSz(q:Rat)(N:Nat):Prop:=(Am q.num.natAbs).length<=N/\(Am q.den).length<=N
theorem RSz.mono{q:Rat}{N M:Nat}(h:RSz q N)(hm:N<=M):RSz q M:=⟨Nat.le_trans h.1 hm,Nat.le_trans h.2 hm⟩
theorem Hx(x:Int)(g:Nat)(hg:(g:Int) ∣ x):(x/(g:Int)).natAbs<=x.natAbs:=by
 obtain ⟨k,rfl⟩:=hg
 rcases Nat.eq_zero_or_pos g with h | h
 .subst h;simp
 .rw [Int.mul_ediv_cancel_left _ (by omega), Int.natAbs_mul]
  exact Nat.le_mul_of_pos_left _ (by simpa using h)
theorem Ej{x y:Int}(hy:0<y):(Rat.divInt x y).num.natAbs<=x.natAbs/\(Rat.divInt x y).den<=y.natAbs:=by
 have h:=Cv (x:=x) hy
 have h1:((Nat.gcd x.natAbs y.natAbs:Nat):Int) ∣ x:=Int.ofNat_dvd_left.2 (Nat.gcd_dvd_left _ _)
 have h2:((Nat.gcd x.natAbs y.natAbs:Nat):Int) ∣ y:=Int.ofNat_dvd_left.2 (Nat.gcd_dvd_right _ _)
 refine ⟨by rw [h.1];exact Hx _ _ h1,?_⟩
 have:=Hx _ _ h2
 rw [<-h.2] at this
 simpa using this
theorem RSz.divInt{x y:Int}{N:Nat}(hy:0<y)(hx:(Am x.natAbs).length<=N)(hyn:(Am y.natAbs).length<=N):RSz (Rat.divInt x y) N:=
 ⟨Bt (Ej hy).1 hx,Bt (Ej hy).2 hyn⟩
theorem den_pos(q:Rat):(0:Int)<q.den:=by have:=q.den_nz;omega
theorem RSz.neg{q:Rat}{N:Nat}(h:RSz q N):RSz (-q) N:=by
 have h1:(-q).num = -q.num:=rfl
 have h2:(-q).den=q.den:=rfl
 exact ⟨by rw [h1,Int.natAbs_neg];exact h.1,by rw [h2];exact h.2⟩
theorem RSz.mul{p q:Rat}{N M:Nat}(hp:RSz p N)(hq:RSz q M):RSz (p*q) (N+M):=by
 have h:=JX p q
 have l:=Ej (x:=p.num) (den_pos q)
 have r:=Ej (x:=q.num) (den_pos p)
 simp only [Int.natAbs_natCast] at l r
 constructor
 .rw [h.1]
  exact BZ (Bt l.1 hp.1) (Bt r.1 hq.1)
 .rw [h.2]
  have:=BZ (x:=((Rat.divInt p.num q.den).den:Int)) (y:=((Rat.divInt q.num p.den).den:Int)) (N:=M) (M:=N) (by simpa using Bt l.2 hq.2) (by simpa using Bt r.2 hp.2)
  rw [Int.natAbs_mul] at this
  simpa [Nat.add_comm] using this
theorem Pe{x y:Int}{N:Nat}(hx:(Am x.natAbs).length<=N)(hy:(Am y.natAbs).length<=N):(Am (x+y).natAbs).length<=N+1:=by
 have h1:=DE hx
 have h2:=DE hy
 refine Ei ?_
 have h3:=Int.natAbs_add_le x y
 have h4:2*BB^N<=BB^N*BB:=by rw [Nat.mul_comm];exact Nat.mul_le_mul_left _ (by decide)
 rw [Nat.pow_succ]
 omega
theorem Cs(q:Rat){N:Nat}(h:RSz q N):(Am (q.den:Int).natAbs).length<=N:=by simpa using h.2
theorem RSz.add{p q:Rat}{N M:Nat}(hp:RSz p N)(hq:RSz q M):RSz (p+q) (N+M+1):=by
 rw [Kl]
 refine RSz.divInt (Int.mul_pos (den_pos p) (den_pos q)) ?_ ?_
 .refine Pe (BZ hp.1 (Cs q hq)) ?_
  have:=BZ hq.1 (Cs p hp)
  rwa [Nat.add_comm] at this
 .exact Nat.le_trans (BZ (Cs p hp) (Cs q hq)) (by omega)
theorem RSz.inv{q:Rat}{N:Nat}(h:RSz q N)(h0:q.num≠0):RSz q⁻¹ N:=by
 rcases Int.lt_or_gt_of_ne h0 with hn | hp
 .obtain ⟨e1,e2⟩:=Ir q hn
  have e3:q⁻¹.den=q.num.natAbs:=by omega
  exact ⟨by rw [e1,Int.natAbs_neg];exact Cs q h,by rw [e3];exact h.1⟩
 .obtain ⟨e1,e2⟩:=Iq q hp
  have e3:q⁻¹.den=q.num.natAbs:=by omega
  exact ⟨by rw [e1];exact Cs q h,by rw [e3];exact h.1⟩
theorem IG(b b':Bool)(A A':Option Addr)(n c n' c':Nat)(x y:Int)(w:World)(h:IsInt w (.bool b) (.slice A n c) x)(h':IsInt w (.bool b') (.slice A' n' c') y)(hn:(Am x.natAbs).length<=4398046511104)(hn':(Am y.natAbs).length<=4398046511104)(hy:0<y) :
  Calls Tryz.prog 102 #[.agg #[.bool b,.slice A n c],.agg #[.bool b',.slice A' n' c']] w (ES (Rat.divInt x y) w):=by
 replace h:=Ac h
 replace h':=Ac h'
 replace hn:=Ac hn
 replace hn':=Ac hn'
 replace hy:=Ac hy
 by_cases hy1:y=1
 .have hyd:decide (y=1)=true:=by simpa using hy1
  replace hy1:=Ac hy1
  go_enter Tryz.func102,Tryz.ntmps102
  go_wp2_with fail
  refine (Cq _ _ _ _ _ _ (h'.out.ext ((((Ext.refl _).alloc _).alloc _).alloc _))).mono ?_
  rintro e w1 ⟨rfl,hE1⟩
  obtain ⟨hcell,hfr⟩:=hE1.cells
  replace hE1:=Ac hE1
  go_wp2
  have hEw:=((((Ext.refl w).alloc _).alloc _).alloc _).trans hE1.out
  have ht:Ty w1 (w.heap.size+2) 42:=(Br _ _ (by simp)).ext hE1.out
  refine bodyPost_ret (v:=.agg #[.bool b,.slice A n c,.bool b',.slice A' n' c']) (by simp [results,Tryz.results102,go_sem,hcell]) rfl ⟨_,_,_,_,_,_,_,_,rfl,?_,?_⟩
  .have hq:IsRat w1 (.bool b) (.slice A n c) (.bool b') (.slice A' n' c') (Rat.divInt x y):=by
    rw [hy1.out]
    refine ⟨by rw [(Mx x).1];exact h.out.ext hEw,by rw [(Mx x).2,<-hy1.out];exact h'.out.ext hEw⟩
   exact (((hq.set ht (by decide) _).set (ht.set _ _) (by decide) _).set ((ht.set _ _).set _ _) (by decide) _).set (((ht.set _ _).set _ _).set _ _) (by decide) _
  .exact (((hEw.set (by simp<;>omega) _).set (by simp<;>omega) _).set (by simp<;>omega) _).set (by simp<;>omega) _
 .have hyd:decide (y=1)=false:=by simpa using hy1
  replace hy1:=Ac hy1
  have hgpos:Hid (Nat.gcd x.natAbs y.natAbs≠0):=by
   have:=hy.out
   show _≠0
   intro e
   have:=Nat.eq_zero_of_gcd_eq_zero_right e
   omega
  have hgl:Hid ((Am (Nat.gcd x.natAbs y.natAbs)).length<=4398046511104):=Bt (Nat.le_of_dvd (by have:=hy.out;omega) (Nat.gcd_dvd_right _ _)) hn'.out
  go_enter Tryz.func102,Tryz.ntmps102
  go_wp2_with fail
  refine (Cq _ _ _ _ _ _ (h'.out.ext ((((Ext.refl _).alloc _).alloc _).alloc _))).mono ?_
  rintro e w1 ⟨rfl,hE1⟩
  obtain ⟨hcell,hfr⟩:=hE1.cells
  have s1:=hE1.size
  simp at s1
  replace hE1:=Ac hE1
  go_wp2_with fail
  refine (UA _ _ _ _ _ _ _ _ _ _ _ (h.out.ext (((((Ext.refl _).alloc _).alloc _).alloc _).trans hE1.out)) (h'.out.ext (((((Ext.refl _).alloc _).alloc _).alloc _).trans hE1.out)) hn.out hn'.out).mono ?_
  rintro e w2 ⟨b2,A2,n2,c2,rfl,hI2,hE2⟩
  replace hE2:=Ac (hE1.out.trans hE2)
  replace hI2:=Ac hI2
  clear hcell hfr
  obtain ⟨hcell,hfr⟩:=hE2.out.cells
  have s2:=hE2.out.size
  simp at s2
  by_cases hg1:((Nat.gcd x.natAbs y.natAbs:Nat):Int)=1
  .have hgd:decide (((Nat.gcd x.natAbs y.natAbs:Nat):Int)=1)=true:=by simpa using hg1
   replace hg1:=Ac hg1
   go_wp2_with fail
   refine (Cq _ _ _ _ _ _ (hI2.out.ext ((Ext.refl _).alloc _))).mono ?_
   rintro e w3 ⟨rfl,hE3⟩
   rw [hgd]
   replace hE3:=Ac (hE2.out.trans (((Ext.refl _).alloc _).trans hE3))
   clear hcell hfr
   obtain ⟨hcell,hfr⟩:=hE3.out.cells
   go_wp2
   have hEw:=((((Ext.refl w).alloc _).alloc _).alloc _).trans hE3.out
   have ht:Ty w3 (w.heap.size+2) 42:=(Br _ _ (by simp)).ext hE3.out
   refine bodyPost_ret (v:=.agg #[.bool b,.slice A n c,.bool b',.slice A' n' c']) (by simp [results,Tryz.results102,go_sem,hcell]) rfl ⟨_,_,_,_,_,_,_,_,rfl,?_,?_⟩
   .have hq:IsRat w3 (.bool b) (.slice A n c) (.bool b') (.slice A' n' c') (Rat.divInt x y):=by
     have hc:=My (x:=x) hy.out (by have:=hg1.out;omega)
     refine ⟨by rw [hc.1];exact h.out.ext hEw,by rw [hc.2];exact h'.out.ext hEw⟩
    exact (((hq.set ht (by decide) _).set (ht.set _ _) (by decide) _).set ((ht.set _ _).set _ _) (by decide) _).set (((ht.set _ _).set _ _).set _ _) (by decide) _
   .exact (((hEw.set (by simp<;>omega) _).set (by simp<;>omega) _).set (by simp<;>omega) _).set (by simp<;>omega) _
  .have hgd:decide (((Nat.gcd x.natAbs y.natAbs:Nat):Int)=1)=false:=by simpa using hg1
   replace hg1:=Ac hg1
   go_wp2_with fail
   refine (Cq _ _ _ _ _ _ (hI2.out.ext ((Ext.refl _).alloc _))).mono ?_
   rintro e w3 ⟨rfl,hE3⟩
   rw [hgd]
   clear hcell hfr
   have hg3:Blk w3 w2.heap.size 40 #[.bool b2,.slice A2 n2 c2]:=(Blk.new _ _ _).ext hE3
   replace hI2:=Ac (hI2.out.ext (((Ext.refl _).alloc _).trans hE3))
   replace hE3:=Ac (hE2.out.trans (((Ext.refl _).alloc _).trans hE3))
   obtain ⟨hcell,hfr⟩:=hE3.out.cells
   have g0:w3.cell? ⟨w2.heap.size,0,none⟩=some (.bool b2):=hg3.cell 0
   have g1:w3.cell? ⟨w2.heap.size,1,none⟩=some (.slice A2 n2 c2):=hg3.cell 1
   replace hg3:=Ac hg3
   have hEw:=Ac (((((Ext.refl w).alloc _).alloc _).alloc _).trans hE3.out)
   go_wp2_with fail
   refine (Mw _ _ _ _ _ _ _ _ _ _ _ (h.out.ext hEw.out) hI2.out hn.out (by simpa using hgl.out) (by simpa using hgpos.out)).mono ?_
   rintro e w4 ⟨b4,b5,A4,A5,n4,c4,n5,c5,rfl,hq4,hr4,hE4⟩
   clear hcell hfr g0 g1 hr4
   have hg4:=hg3.out.ext hE4
   replace hI2:=Ac (hI2.out.ext hE4)
   replace hE4:=Ac (hE3.out.trans hE4)
   obtain ⟨hcell,hfr⟩:=hE4.out.cells
   have g0:w4.cell? ⟨w2.heap.size,0,none⟩=some (.bool b2):=hg4.cell 0
   have g1:w4.cell? ⟨w2.heap.size,1,none⟩=some (.slice A2 n2 c2):=hg4.cell 1
   have s4:=Blk.lt hg4
   replace hq4:=Ac hq4
   replace hg4:=Ac hg4
   have e2:Blk w4 w.heap.size 40 #[.bool b,.slice A n c]:=(((Blk.new w _ _).alloc _).alloc _).ext hE4.out
   have e3:Blk w4 (w.heap.size+1) 40 #[.bool b',.slice A' n' c']:=((AW _ _ (by simp)).alloc _).ext hE4.out
   have e4:Blk w4 (w.heap.size+2) 42 #[.bool false,.slice none 0 0,.bool false,.slice none 0 0]:=(AW _ _ (by simp)).ext hE4.out
   replace e2:=Ac e2
   replace e3:=Ac e3
   replace e4:=Ac e4
   go_wp2_with fail
   have t2:=e2.out.ty
   have f2:=(e2.out.set 0 (.bool b4)).set 1 (.slice A4 n4 c4)
   have f3:=(e3.out.far (p:=⟨w.heap.size,0,none⟩) (by simp) (.bool b4)).far (p:=⟨w.heap.size,1,none⟩) (by simp) (.slice A4 n4 c4)
   have f4:=(e4.out.far (p:=⟨w.heap.size,0,none⟩) (by simp) (.bool b4)).far (p:=⟨w.heap.size,1,none⟩) (by simp) (.slice A4 n4 c4)
   have hEw4:=((((Ext.refl w).alloc _).alloc _).alloc _).trans hE4.out
   have fE:=(hEw4.set (p:=⟨w.heap.size,0,none⟩) (Nat.le_refl _) (.bool b4)).set (p:=⟨w.heap.size,1,none⟩) (Nat.le_refl _) (.slice A4 n4 c4)
   have fq:=(hq4.out.set (p:=⟨w.heap.size,0,none⟩) t2 (by decide) (.bool b4)).set (p:=⟨w.heap.size,1,none⟩) (t2.set _ _) (by decide) (.slice A4 n4 c4)
   have fg:=(hI2.out.set (p:=⟨w.heap.size,0,none⟩) t2 (by decide) (.bool b4)).set (p:=⟨w.heap.size,1,none⟩) (t2.set _ _) (by decide) (.slice A4 n4 c4)
   have fy:=((h'.out.ext hEw4).set (p:=⟨w.heap.size,0,none⟩) t2 (by decide) (.bool b4)).set (p:=⟨w.heap.size,1,none⟩) (t2.set _ _) (by decide) (.slice A4 n4 c4)
   generalize (w4.setCell ⟨w.heap.size,0,none⟩ (.bool b4)).setCell ⟨w.heap.size,1,none⟩ (.slice A4 n4 c4)=w5 at f2 f3 f4 fE fq fg fy ⊢
   clear hcell hfr g0 g1 e2 e3 e4 hE4 hg4 hI2 hq4 hEw4 t2
   refine (Mw _ _ _ _ _ _ _ _ _ _ _ fy fg hn'.out (by simpa using hgl.out) (by simpa using hgpos.out)).mono ?_
   rintro e w6 ⟨b6,b7,A6,A7,n6,c6,n7,c7,rfl,hq6,hr6,hE6⟩
   replace f2:=f2.ext hE6
   replace f3:=f3.ext hE6
   replace f4:=f4.ext hE6
   replace fq:=fq.ext hE6
   replace fE:=fE.trans hE6
   have k0:w6.cell? ⟨w.heap.size,0,none⟩=some (.bool b4):=f2.cell 0
   have k1:w6.cell? ⟨w.heap.size,1,none⟩=some (.slice A4 n4 c4):=f2.cell 1
   have k2:w6.cell? ⟨w.heap.size+1,0,none⟩=some (.bool b'):=f3.cell 0
   have k3:w6.cell? ⟨w.heap.size+1,1,none⟩=some (.slice A' n' c'):=f3.cell 1
   have k4:=f3.frozen 0
   have k5:=f3.frozen 1
   have k6:w6.cell? ⟨w.heap.size+2,0,none⟩=some (.bool false):=f4.cell 0
   have k7:w6.cell? ⟨w.heap.size+2,1,none⟩=some (.slice none 0 0):=f4.cell 1
   have k8:w6.cell? ⟨w.heap.size+2,2,none⟩=some (.bool false):=f4.cell 2
   have k9:w6.cell? ⟨w.heap.size+2,3,none⟩=some (.slice none 0 0):=f4.cell 3
   have l0:=f4.frozen 0
   have l1:=f4.frozen 1
   have l2:=f4.frozen 2
   have l3:=f4.frozen 3
   have t3:=Ac f3.ty
   have t4:=Ac f4.ty
   replace fq:=Ac fq
   replace hq6:=Ac hq6
   replace fE:=Ac fE
   clear f2 f3 f4 fg fy hr6 hE6
   go_wp2
   refine bodyPost_ret (v:=.agg #[.bool b4,.slice A4 n4 c4,.bool b6,.slice A6 n6 c6]) (by simp [results,Tryz.results102,go_sem,k6,k7,k8,k9]) rfl ⟨_,_,_,_,_,_,_,_,rfl,?_,?_⟩
   .have hq:IsRat w6 (.bool b4) (.slice A4 n4 c4) (.bool b6) (.slice A6 n6 c6) (Rat.divInt x y):=by
     have hc:=Cv (x:=x) hy.out
     exact ⟨by rw [hc.1];exact fq.out,by rw [hc.2];exact hq6.out⟩
    exact (hq.put2 (b:=w.heap.size+1) t3.out (by decide) (.bool b6) (.slice A6 n6 c6)).put4 (b:=w.heap.size+2) (t4.out.put2 _ _ _) (by decide) (.bool b4) (.slice A4 n4 c4) (.bool b6) (.slice A6 n6 c6)
   .exact (fE.out.put2 (b:=w.heap.size+1) (by omega) (.bool b6) (.slice A6 n6 c6)).put4 (b:=w.heap.size+2) (by omega) (.bool b4) (.slice A4 n4 c4) (.bool b6) (.slice A6 n6 c6)
theorem neg_num(q:Rat):(-q).num = -q.num:=rfl
theorem A0F(q:Rat):(-q).den=q.den:=rfl
theorem Rq(b b':Bool)(A A':Option Addr)(n c n' c':Nat)(p:Rat)(w:World)(h:IsRat w (.bool b) (.slice A n c) (.bool b') (.slice A' n' c') p) :
  Calls Tryz.prog 34 #[.agg #[.bool b,.slice A n c,.bool b',.slice A' n' c']] w (λe w'=>e = .returned (.int .i64 p.num.sign)/\Ext w w'):=by
 replace h:=Ac h
 go_enter Tryz.func34,Tryz.ntmps34
 go_wp2_with fail
 refine (LE _ _ _ _ _ _ (h.out.1.ext ((Ext.refl _).alloc _))).mono ?_
 rintro e w1 ⟨rfl,hE1⟩
 go_wp2
 go_ret
 exact ⟨rfl,((Ext.refl _).alloc _).trans hE1⟩
theorem A1m(b b':Bool)(A A':Option Addr)(n c n' c':Nat)(p:Rat)(w:World)(h:IsRat w (.bool b) (.slice A n c) (.bool b') (.slice A' n' c') p)(hn:(Am p.num.natAbs).length<=4398046511104) :
  Calls Tryz.prog 101 #[.agg #[.bool b,.slice A n c,.bool b',.slice A' n' c']] w (ES (-p) w):=by
 replace h:=Ac h
 replace hn:=Ac hn
 go_enter Tryz.func101,Tryz.ntmps101
 go_wp2
 refine wp_region_v (by kernel_rfl) [[], [(3, 0)], [(4, 1)], [], [(6, 3)], [(5, 2), (7, 4)]] [[], [0], [0, 1], [], [3], [0, 1, 2, 3, 4]]
  [λv _=>v = .pointer (some ⟨w.heap.size,0,none⟩),λv _=>v = .agg #[.bool b,.slice A n c],λv w'=>∃b A n c,v = .agg #[.bool b,.slice A n c]/\IsInt w' (.bool b) (.slice A n c) (-p.num),λv _=>v = .pointer (some ⟨w.heap.size,2,none⟩),λv _=>v = .agg #[.bool b',.slice A' n' c'],λv w'=>∃b A n c b' A' n' c',v = .agg #[.bool b,.slice A n c,.bool b',.slice A' n' c']/\IsRat w' (.bool b) (.slice A n c) (.bool b') (.slice A' n' c') (-p)]
  rfl (by kernel_rfl) (by kernel_rfl) ?stab ?steps ?fin
 case stab=>exact .cons (Stab.eq _) (.cons (Stab.eq _) (.cons (λ_ _ _ he ⟨b,A,n,c,h1,h2⟩=>⟨b,A,n,c,h1,h2.ext he⟩) (.cons (Stab.eq _) (.cons (Stab.eq _) (.cons (λ_ _ _ he ⟨b,A,n,c,b',A',n',c',h1,h2⟩=>⟨b,A,n,c,b',A',n',c',h1,h2.ext he⟩) .nil)))))
 case steps=>
  refine .cons ?s0 (.cons ?s1 (.cons ?s2 (.cons ?s3 (.cons ?s4 (.cons ?s5 .nil)))))
  case s0=>
   intro w' ev hE hk ha hc hf
   have e1:ev (.tmp 1) = .pointer (some ⟨w.heap.size,0,none⟩):=ha 1 (by decide)
   exact Ag (by simp [execOp,e1,go_sem]) rfl
  case s1=>
   intro w' ev hE hk ha hc hf
   have e3:ev (.tmp 3) = .pointer (some ⟨w.heap.size,0,none⟩):=hk.1 _ rfl
   have c0:w'.cell? ⟨w.heap.size,0,none⟩=some (.bool b):=hE.cellv (((Blk.new _ _ _).alloc _).drew.cell 0)
   have c1:w'.cell? ⟨w.heap.size,1,none⟩=some (.slice A n c):=hE.cellv (((Blk.new _ _ _).alloc _).drew.cell 1)
   exact Ag (by simp [execOp,e3,c0,c1,go_sem]) rfl
  case s2=>
   intro w' ev hE hk ha hc hf
   have e4:ev (.tmp 4) = .agg #[.bool b,.slice A n c]:=hk.1 _ rfl
   refine Aw (by simp [execOp,resolve,invoke,hf,e4,go_sem]) (OW _ _ _ _ _ _ (h.out.1.ext ((((Ext.refl _).alloc _).alloc _).drew.trans hE)) hn.out) ?_
   rintro e w1 ⟨b1,A1,n1,k1,rfl,hI1,hE1⟩
   exact ⟨_,rfl,hE1,b1,A1,n1,k1,rfl,hI1⟩
  case s3=>
   intro w' ev hE hk ha hc hf
   have e1:ev (.tmp 1) = .pointer (some ⟨w.heap.size,0,none⟩):=ha 1 (by decide)
   exact Ag (by simp [execOp,e1,go_sem]) rfl
  case s4=>
   intro w' ev hE hk ha hc hf
   have e6:ev (.tmp 6) = .pointer (some ⟨w.heap.size,2,none⟩):=hk.1 _ rfl
   have c0:w'.cell? ⟨w.heap.size,2,none⟩=some (.bool b'):=hE.cellv (((Blk.new _ _ _).alloc _).drew.cell 2)
   have c1:w'.cell? ⟨w.heap.size,3,none⟩=some (.slice A' n' c'):=hE.cellv (((Blk.new _ _ _).alloc _).drew.cell 3)
   exact Ag (by simp [execOp,e6,c0,c1,go_sem]) rfl
  case s5=>
   intro w' ev hE hk ha hc hf
   have f5:=hk.1 _ rfl
   have e7:ev (.tmp 7) = .agg #[.bool b',.slice A' n' c']:=hk.2.1 _ rfl
   obtain ⟨b1,A1,n1,c1,e5,hI⟩:=f5
   exact Ag (v:=.agg #[.bool b1,.slice A1 n1 c1,.bool b',.slice A' n' c']) (by simp [execOp,e7,e5,go_sem]) ⟨_,_,_,_,_,_,_,_,rfl,by rw [neg_num];exact hI,by rw [A0F];exact h.out.2.ext ((((Ext.refl _).alloc _).alloc _).drew.trans hE)⟩
 case fin=>
  intro g w' hE hF
  obtain ⟨b5,A5,n5,c5,b6,A6,n6,c6,e5,hI5⟩:=hF 5 _ rfl
  simp only [List.length_cons,List.length_nil,Nat.reduceAdd,List.drop_succ_cons,List.drop_zero,List.take_succ_cons,List.take_zero,CM,Act.put,List.setIfInBounds_toArray,List.set_cons_succ,List.set_cons_zero,e5]
  clear hF e5
  replace hI5:=Ac hI5
  obtain ⟨hcell,hfr⟩:=hE.cells
  replace hE:=Ac hE
  go_wp2
  refine bodyPost_ret (v:=.agg #[.bool b5,.slice A5 n5 c5,.bool b6,.slice A6 n6 c6]) (by simp [results,Tryz.results101,go_sem,hcell]) rfl ⟨_,_,_,_,_,_,_,_,rfl,?_,?_⟩
  .have ht:Ty w' (w.heap.size+1) 42:=(Br _ _ (by simp)).drew.ext hE.out
   exact hI5.out.put4 (b:=w.heap.size+1) ht (by decide) (.bool b5) (.slice A5 n5 c5) (.bool b6) (.slice A6 n6 c6)
  .exact ((((Ext.refl _).alloc _).alloc _).drew.trans hE.out).put4 (b:=w.heap.size+1) (by omega) (.bool b5) (.slice A5 n5 c5) (.bool b6) (.slice A6 n6 c6)
theorem PW(b b':Bool)(A A':Option Addr)(n c n' c':Nat)(d d':Bool)(E E':Option Addr)(m k m' k':Nat)(p q:Rat)(N M:Nat)(w:World)(h:IsRat w (.bool b) (.slice A n c) (.bool b') (.slice A' n' c') p)(h':IsRat w (.bool d) (.slice E m k) (.bool d') (.slice E' m' k') q)(hp:RSz p N)(hq:RSz q M)(hN:N+M<=4398046511104) :
  Calls Tryz.prog 74 #[.agg #[.bool b,.slice A n c,.bool b',.slice A' n' c'],.agg #[.bool d,.slice E m k,.bool d',.slice E' m' k']] w (ES (p*q) w):=by
 replace h:=Ac h
 replace h':=Ac h'
 replace hp:=Ac hp
 replace hq:=Ac hq
 go_enter Tryz.func74,Tryz.ntmps74
 have l1:Hid ((Am p.num.natAbs).length<=4398046511104):=Nat.le_trans hp.out.1 (by omega)
 have l2:Hid ((Am (q.den:Int).natAbs).length<=4398046511104):=Nat.le_trans (Cs q hq.out) (by omega)
 have l3:Hid ((Am q.num.natAbs).length<=4398046511104):=Nat.le_trans hq.out.1 (by omega)
 have l4:Hid ((Am (p.den:Int).natAbs).length<=4398046511104):=Nat.le_trans (Cs p hp.out) (by omega)
 have m1:Hid ((Am (Rat.divInt p.num q.den).num.natAbs).length<=4398046511104):=Bt (Ej (den_pos q)).1 l1.out
 have m2:Hid ((Am (Rat.divInt q.num p.den).num.natAbs).length<=4398046511104):=Bt (Ej (den_pos p)).1 l3.out
 have m3:Hid ((Am ((Rat.divInt p.num q.den).den:Int).natAbs).length<=4398046511104):=by
  have:=Bt (Ej (x:=p.num) (den_pos q)).2 l2.out
  simpa [Hid] using this
 have m4:Hid ((Am ((Rat.divInt q.num p.den).den:Int).natAbs).length<=4398046511104):=by
  have:=Bt (Ej (x:=q.num) (den_pos p)).2 l4.out
  simpa [Hid] using this
 clear hN hp hq
 go_wp2_with fail
 refine (IG _ _ _ _ _ _ _ _ _ _ _ (h.out.1.ext ((((Ext.refl _).alloc _).alloc _).alloc _)) (h'.out.2.ext ((((Ext.refl _).alloc _).alloc _).alloc _)) l1.out l2.out (den_pos q)).mono ?_
 rintro e w1 ⟨b1,b2,A1,A2,n1,c1,n2,c2,rfl,hI1,hE1⟩
 obtain ⟨hcell,hfr⟩:=hE1.cells
 have s1:=hE1.size
 simp at s1
 replace hI1:=Ac hI1
 replace hE1:=Ac hE1
 have y0:(w1.alloc (Obj.cells #[.bool b1,.slice A1 n1 c1,.bool b2,.slice A2 n2 c2] 42)).cell? ⟨w.heap.size+1,0,none⟩=some (.bool d):=((((AW _ _ (by simp)).alloc _).ext hE1.out).alloc _).cell 0
 have y1:(w1.alloc (Obj.cells #[.bool b1,.slice A1 n1 c1,.bool b2,.slice A2 n2 c2] 42)).cell? ⟨w.heap.size+1,1,none⟩=some (.slice E m k):=((((AW _ _ (by simp)).alloc _).ext hE1.out).alloc _).cell 1
 have y2:(w1.alloc (Obj.cells #[.bool b1,.slice A1 n1 c1,.bool b2,.slice A2 n2 c2] 42)).cell? ⟨w.heap.size,2,none⟩=some (.bool b'):=(((((Blk.new _ _ _).alloc _).alloc _).ext hE1.out).alloc _).cell 2
 have y3:(w1.alloc (Obj.cells #[.bool b1,.slice A1 n1 c1,.bool b2,.slice A2 n2 c2] 42)).cell? ⟨w.heap.size,3,none⟩=some (.slice A' n' c'):=(((((Blk.new _ _ _).alloc _).alloc _).ext hE1.out).alloc _).cell 3
 clear hcell hfr
 have hX1:=Ac (((((Ext.refl _).alloc _).alloc _).alloc _).trans (hE1.out.alloc (Obj.cells #[.bool b1,.slice A1 n1 c1,.bool b2,.slice A2 n2 c2] 42)))
 go_wp2_with fail
 refine (IG _ _ _ _ _ _ _ _ _ _ _ (h'.out.1.ext hX1.out) (h.out.2.ext hX1.out) l3.out l4.out (den_pos p)).mono ?_
 rintro e w2 ⟨b3,b4,A3,A4,n3,c3,n4,c4,rfl,hI3,hE2⟩
 have hB1:Blk w2 w1.heap.size 42 #[.bool b1,.slice A1 n1 c1,.bool b2,.slice A2 n2 c2]:=(Blk.new _ _ _).ext hE2
 replace hI1:=Ac (hI1.out.ext (((Ext.refl _).alloc _).trans hE2))
 replace hE2:=Ac (((hE1.out.alloc _).trans hE2))
 clear y0 y1 y2 y3
 obtain ⟨hcell,hfr⟩:=hE2.out.cells
 have s2:=Blk.lt hB1
 replace hI3:=Ac hI3
 replace hB1:=Ac hB1
 clear hE1 hX1 l1 l2 l3 l4
 go_wp2
 refine wp_region_v (by kernel_rfl) [[], [(17, 0)], [], [(19, 2)], [(18, 1), (20, 3)], [(21, 4)], [], [(23, 6)], [], [(25, 8)], [(24, 7), (26, 9)], [(27, 10)], [(22, 5), (28, 11)]] [[], [0], [], [2], [0, 1, 2, 3], [0, 1, 2, 3, 4], [], [6], [], [8], [6, 7, 8, 9], [0, 1, 2, 3, 4, 5, 6, 7, 8, 9, 10], [0, 1, 2, 3, 4, 5, 6, 7, 8, 9, 10, 11]]
  [λv _=>v = .pointer (some ⟨w1.heap.size,0,none⟩),λv _=>v = .agg #[.bool b1,.slice A1 n1 c1],λv _=>v = .pointer (some ⟨w2.heap.size,0,none⟩),λv _=>v = .agg #[.bool b3,.slice A3 n3 c3],λv w'=>∃g,v = .slice (some ⟨g,0,none⟩) 2 2/\Blk w' g 40 #[.bool b1,.slice A1 n1 c1,.bool b3,.slice A3 n3 c3],λv w'=>∃b A n c,v = .agg #[.bool b,.slice A n c]/\IsInt w' (.bool b) (.slice A n c) ((Rat.divInt p.num q.den).num*(Rat.divInt q.num p.den).num),λv _=>v = .pointer (some ⟨w1.heap.size,2,none⟩),λv _=>v = .agg #[.bool b2,.slice A2 n2 c2],λv _=>v = .pointer (some ⟨w2.heap.size,2,none⟩),λv _=>v = .agg #[.bool b4,.slice A4 n4 c4],λv w'=>∃g,v = .slice (some ⟨g,0,none⟩) 2 2/\Blk w' g 40 #[.bool b2,.slice A2 n2 c2,.bool b4,.slice A4 n4 c4],λv w'=>∃b A n c,v = .agg #[.bool b,.slice A n c]/\IsInt w' (.bool b) (.slice A n c) (((Rat.divInt p.num q.den).den:Int)*((Rat.divInt q.num p.den).den:Int)),λv w'=>∃b A n c b' A' n' c',v = .agg #[.bool b,.slice A n c,.bool b',.slice A' n' c']/\IsRat w' (.bool b) (.slice A n c) (.bool b') (.slice A' n' c') (p*q)]
  rfl (by kernel_rfl) (by kernel_rfl) ?stab ?steps ?fin
 case stab=>exact .cons (Stab.eq _) (.cons (Stab.eq _) (.cons (Stab.eq _) (.cons (Stab.eq _) (.cons (λ_ _ _ he ⟨g,h1,h2⟩=>⟨g,h1,h2.ext he⟩) (.cons (λ_ _ _ he ⟨b,A,n,c,h1,h2⟩=>⟨b,A,n,c,h1,h2.ext he⟩) (.cons (Stab.eq _) (.cons (Stab.eq _) (.cons (Stab.eq _) (.cons (Stab.eq _) (.cons (λ_ _ _ he ⟨g,h1,h2⟩=>⟨g,h1,h2.ext he⟩) (.cons (λ_ _ _ he ⟨b,A,n,c,h1,h2⟩=>⟨b,A,n,c,h1,h2.ext he⟩) (.cons (λ_ _ _ he ⟨b,A,n,c,b',A',n',c',h1,h2⟩=>⟨b,A,n,c,b',A',n',c',h1,h2.ext he⟩) .nil))))))))))))
 case steps=>
  refine .cons ?s0 (.cons ?s1 (.cons ?s2 (.cons ?s3 (.cons ?s4 (.cons ?s5 (.cons ?s6 (.cons ?s7 (.cons ?s8 (.cons ?s9 (.cons ?s10 (.cons ?s11 (.cons ?s12 .nil))))))))))))
  case s0=>
   intro w' ev hE hk ha hc hf
   have e5:ev (.tmp 5) = .pointer (some ⟨w1.heap.size,0,none⟩):=ha 5 (by decide)
   exact Ag (by simp [execOp,e5,go_sem]) rfl
  case s1=>
   intro w' ev hE hk ha hc hf
   have e17:ev (.tmp 17) = .pointer (some ⟨w1.heap.size,0,none⟩):=hk.1 _ rfl
   have c0:w'.cell? ⟨w1.heap.size,0,none⟩=some (.bool b1):=hE.cellv (((hB1.out.alloc _).drew.cell 0))
   have c1:w'.cell? ⟨w1.heap.size,1,none⟩=some (.slice A1 n1 c1):=hE.cellv (((hB1.out.alloc _).drew.cell 1))
   exact Ag (by simp [execOp,e17,c0,c1,go_sem]) rfl
  case s2=>
   intro w' ev hE hk ha hc hf
   have e6:ev (.tmp 6) = .pointer (some ⟨w2.heap.size,0,none⟩):=ha 6 (by decide)
   exact Ag (by simp [execOp,e6,go_sem]) rfl
  case s3=>
   intro w' ev hE hk ha hc hf
   have e19:ev (.tmp 19) = .pointer (some ⟨w2.heap.size,0,none⟩):=hk.1 _ rfl
   have c0:w'.cell? ⟨w2.heap.size,0,none⟩=some (.bool b3):=hE.cellv (((Blk.new _ _ _).drew.cell 0))
   have c1:w'.cell? ⟨w2.heap.size,1,none⟩=some (.slice A3 n3 c3):=hE.cellv (((Blk.new _ _ _).drew.cell 1))
   exact Ag (by simp [execOp,e19,c0,c1,go_sem]) rfl
  case s4=>
   intro w' ev hE hk ha hc hf
   have e18:ev (.tmp 18) = .agg #[.bool b1,.slice A1 n1 c1]:=hk.1 _ rfl
   have e20:ev (.tmp 20) = .agg #[.bool b3,.slice A3 n3 c3]:=hk.2.1 _ rfl
   exact Eg (by simp [execOp,e18,e20,go_sem]) ((Ext.refl _).alloc _) ⟨_,rfl,Blk.new _ _ _⟩
  case s5=>
   intro w' ev hE hk ha hc hf
   have f21:=hk.1 _ rfl
   obtain ⟨g1,e21,hB⟩:=f21
   refine Aw (by simp [execOp,resolve,invoke,hf,e21,go_sem]) (Gu _ _ _ _ _ _ _ _ _ _ _ _ hB (hI1.out.1.ext (((Ext.refl _).alloc _).drew.trans hE)) (hI3.out.1.ext (((Ext.refl _).alloc _).drew.trans hE)) m1.out m2.out) ?_
   rintro e w1 ⟨b1,A1,n1,k1,rfl,hI1,hE1⟩
   exact ⟨_,rfl,hE1,b1,A1,n1,k1,rfl,hI1⟩
  case s6=>
   intro w' ev hE hk ha hc hf
   have e5:ev (.tmp 5) = .pointer (some ⟨w1.heap.size,0,none⟩):=ha 5 (by decide)
   exact Ag (by simp [execOp,e5,go_sem]) rfl
  case s7=>
   intro w' ev hE hk ha hc hf
   have e23:ev (.tmp 23) = .pointer (some ⟨w1.heap.size,2,none⟩):=hk.1 _ rfl
   have c0:w'.cell? ⟨w1.heap.size,2,none⟩=some (.bool b2):=hE.cellv (((hB1.out.alloc _).drew.cell 2))
   have c1:w'.cell? ⟨w1.heap.size,3,none⟩=some (.slice A2 n2 c2):=hE.cellv (((hB1.out.alloc _).drew.cell 3))
   exact Ag (by simp [execOp,e23,c0,c1,go_sem]) rfl
  case s8=>
   intro w' ev hE hk ha hc hf
   have e6:ev (.tmp 6) = .pointer (some ⟨w2.heap.size,0,none⟩):=ha 6 (by decide)
   exact Ag (by simp [execOp,e6,go_sem]) rfl
  case s9=>
   intro w' ev hE hk ha hc hf
   have e25:ev (.tmp 25) = .pointer (some ⟨w2.heap.size,2,none⟩):=hk.1 _ rfl
   have c0:w'.cell? ⟨w2.heap.size,2,none⟩=some (.bool b4):=hE.cellv (((Blk.new _ _ _).drew.cell 2))
   have c1:w'.cell? ⟨w2.heap.size,3,none⟩=some (.slice A4 n4 c4):=hE.cellv (((Blk.new _ _ _).drew.cell 3))
   exact Ag (by simp [execOp,e25,c0,c1,go_sem]) rfl
  case s10=>
   intro w' ev hE hk ha hc hf
   have e24:ev (.tmp 24) = .agg #[.bool b2,.slice A2 n2 c2]:=hk.1 _ rfl
   have e26:ev (.tmp 26) = .agg #[.bool b4,.slice A4 n4 c4]:=hk.2.1 _ rfl
   exact Eg (by simp [execOp,e24,e26,go_sem]) ((Ext.refl _).alloc _) ⟨_,rfl,Blk.new _ _ _⟩
  case s11=>
   intro w' ev hE hk ha hc hf
   have f27:=hk.1 _ rfl
   obtain ⟨g1,e27,hB⟩:=f27
   refine Aw (by simp [execOp,resolve,invoke,hf,e27,go_sem]) (Gu _ _ _ _ _ _ _ _ _ _ _ _ hB (hI1.out.2.ext (((Ext.refl _).alloc _).drew.trans hE)) (hI3.out.2.ext (((Ext.refl _).alloc _).drew.trans hE)) m3.out m4.out) ?_
   rintro e w1 ⟨b1,A1,n1,k1,rfl,hI1,hE1⟩
   exact ⟨_,rfl,hE1,b1,A1,n1,k1,rfl,hI1⟩
  case s12=>
   intro w' ev hE hk ha hc hf
   have f22:=hk.1 _ rfl
   have f28:=hk.2.1 _ rfl
   obtain ⟨b1',A1',n1',c1',e22,hI⟩:=f22
   obtain ⟨b2',A2',n2',c2',e28,hI'⟩:=f28
   exact Ag (v:=.agg #[.bool b1',.slice A1' n1' c1',.bool b2',.slice A2' n2' c2']) (by simp [execOp,e22,e28,go_sem]) ⟨_,_,_,_,_,_,_,_,rfl,by rw [(JX p q).1];exact hI,by rw [(JX p q).2,Int.natCast_mul];exact hI'⟩
 case fin=>
  intro g w' hE hF
  obtain ⟨b5,A5,n5,c5,b6,A6,n6,c6,e5,hI5⟩:=hF 12 _ rfl
  simp only [List.length_cons,List.length_nil,Nat.reduceAdd,List.drop_succ_cons,List.drop_zero,List.take_succ_cons,List.take_zero,CM,Act.put,List.setIfInBounds_toArray,List.set_cons_succ,List.set_cons_zero,e5]
  clear hF e5 hcell hfr
  replace hI5:=Ac hI5
  replace hE:=Ac ((hE2.out.alloc (Obj.cells #[.bool b3,.slice A3 n3 c3,.bool b4,.slice A4 n4 c4] 42)).drew.trans hE)
  obtain ⟨hcell,hfr⟩:=hE.out.cells
  go_wp2
  refine bodyPost_ret (v:=.agg #[.bool b5,.slice A5 n5 c5,.bool b6,.slice A6 n6 c6]) (by simp [results,Tryz.results74,go_sem,hcell]) rfl ⟨_,_,_,_,_,_,_,_,rfl,?_,?_⟩
  .have ht:Ty w' (w.heap.size+2) 42:=(Br _ _ (by simp)).ext hE.out
   exact hI5.out.put4 (b:=w.heap.size+2) ht (by decide) (.bool b5) (.slice A5 n5 c5) (.bool b6) (.slice A6 n6 c6)
  .exact (((((Ext.refl _).alloc _).alloc _).alloc _).trans hE.out).put4 (b:=w.heap.size+2) (by omega) (.bool b5) (.slice A5 n5 c5) (.bool b6) (.slice A6 n6 c6)
theorem Qb(b b':Bool)(A A':Option Addr)(n c n' c':Nat)(d d':Bool)(E E':Option Addr)(m k m' k':Nat)(p q:Rat)(N M:Nat)(w:World)(h:IsRat w (.bool b) (.slice A n c) (.bool b') (.slice A' n' c') p)(h':IsRat w (.bool d) (.slice E m k) (.bool d') (.slice E' m' k') q)(hp:RSz p N)(hq:RSz q M)(hN:N+M+1<=4398046511104) :
  Calls Tryz.prog 100 #[.agg #[.bool b,.slice A n c,.bool b',.slice A' n' c'],.agg #[.bool d,.slice E m k,.bool d',.slice E' m' k']] w (ES (p+q) w):=by
 replace h:=Ac h
 replace h':=Ac h'
 replace hp:=Ac hp
 replace hq:=Ac hq
 go_enter Tryz.func100,Tryz.ntmps100
 have l1:Hid ((Am p.num.natAbs).length<=4398046511104):=Nat.le_trans hp.out.1 (by omega)
 have l2:Hid ((Am (q.den:Int).natAbs).length<=4398046511104):=Nat.le_trans (Cs q hq.out) (by omega)
 have l3:Hid ((Am q.num.natAbs).length<=4398046511104):=Nat.le_trans hq.out.1 (by omega)
 have l4:Hid ((Am (p.den:Int).natAbs).length<=4398046511104):=Nat.le_trans (Cs p hp.out) (by omega)
 have m1:Hid ((Am (p.num*(q.den:Int)).natAbs).length<=4398046511104):=Nat.le_trans (BZ hp.out.1 (Cs q hq.out)) (by omega)
 have m2:Hid ((Am (q.num*(p.den:Int)).natAbs).length<=4398046511104):=Nat.le_trans (BZ hq.out.1 (Cs p hp.out)) (by omega)
 have m3:Hid ((Am (p.num*(q.den:Int)+q.num*(p.den:Int)).natAbs).length<=4398046511104):=Nat.le_trans (Pe (N:=N+M) (BZ hp.out.1 (Cs q hq.out)) (Nat.le_trans (BZ hq.out.1 (Cs p hp.out)) (by omega))) hN
 have m4:Hid ((Am ((p.den:Int)*(q.den:Int)).natAbs).length<=4398046511104):=Nat.le_trans (BZ (Cs p hp.out) (Cs q hq.out)) (by omega)
 clear hN hp hq
 go_wp2
 refine wp_region_v (by kernel_rfl) [[], [(6, 0)], [], [(8, 2)], [(7, 1), (9, 3)], [(10, 4)], [], [(12, 6)], [], [(14, 8)], [(13, 7), (15, 9)], [(16, 10)], [(11, 5), (17, 11)], []] [[], [0], [], [2], [0, 1, 2, 3], [0, 1, 2, 3, 4], [], [6], [], [8], [6, 7, 8, 9], [0, 1, 2, 3, 4, 5, 6, 7, 8, 9, 10], [0, 1, 2, 3, 4, 5, 6, 7, 8, 9, 10, 11], []]
  [λv _=>v = .pointer (some ⟨w.heap.size,0,none⟩),λv _=>v = .agg #[.bool b,.slice A n c],λv _=>v = .pointer (some ⟨w.heap.size+1,2,none⟩),λv _=>v = .agg #[.bool d',.slice E' m' k'],λv w'=>∃g,v = .slice (some ⟨g,0,none⟩) 2 2/\Blk w' g 40 #[.bool b,.slice A n c,.bool d',.slice E' m' k'],λv w'=>∃b A n c,v = .agg #[.bool b,.slice A n c]/\IsInt w' (.bool b) (.slice A n c) (p.num*(q.den:Int)),λv _=>v = .pointer (some ⟨w.heap.size+1,0,none⟩),λv _=>v = .agg #[.bool d,.slice E m k],λv _=>v = .pointer (some ⟨w.heap.size,2,none⟩),λv _=>v = .agg #[.bool b',.slice A' n' c'],λv w'=>∃g,v = .slice (some ⟨g,0,none⟩) 2 2/\Blk w' g 40 #[.bool d,.slice E m k,.bool b',.slice A' n' c'],λv w'=>∃b A n c,v = .agg #[.bool b,.slice A n c]/\IsInt w' (.bool b) (.slice A n c) (q.num*(p.den:Int)),λv w'=>∃b A n c,v = .agg #[.bool b,.slice A n c]/\IsInt w' (.bool b) (.slice A n c) (p.num*(q.den:Int)+q.num*(p.den:Int)),λv w'=>∃g,v = .pointer (some ⟨g,0,none⟩)/\w.heap.size+3<=g/\Blk w' g 40 #[.bool false,.slice none 0 0]]
  rfl (by kernel_rfl) (by kernel_rfl) ?stab ?steps ?fin
 case stab=>exact .cons (Stab.eq _) (.cons (Stab.eq _) (.cons (Stab.eq _) (.cons (Stab.eq _) (.cons (λ_ _ _ he ⟨g,h1,h2⟩=>⟨g,h1,h2.ext he⟩) (.cons (λ_ _ _ he ⟨b,A,n,c,h1,h2⟩=>⟨b,A,n,c,h1,h2.ext he⟩) (.cons (Stab.eq _) (.cons (Stab.eq _) (.cons (Stab.eq _) (.cons (Stab.eq _) (.cons (λ_ _ _ he ⟨g,h1,h2⟩=>⟨g,h1,h2.ext he⟩) (.cons (λ_ _ _ he ⟨b,A,n,c,h1,h2⟩=>⟨b,A,n,c,h1,h2.ext he⟩) (.cons (λ_ _ _ he ⟨b,A,n,c,h1,h2⟩=>⟨b,A,n,c,h1,h2.ext he⟩) (.cons (λ_ _ _ he ⟨g,h1,h2,h3⟩=>⟨g,h1,h2,h3.ext he⟩) .nil)))))))))))))
 case steps=>
  refine .cons ?s0 (.cons ?s1 (.cons ?s2 (.cons ?s3 (.cons ?s4 (.cons ?s5 (.cons ?s6 (.cons ?s7 (.cons ?s8 (.cons ?s9 (.cons ?s10 (.cons ?s11 (.cons ?s12 (.cons ?s13 .nil)))))))))))))
  case s0=>
   intro w' ev hE hk ha hc hf
   have e2:ev (.tmp 2) = .pointer (some ⟨w.heap.size,0,none⟩):=ha 2 (by decide)
   exact Ag (by simp [execOp,e2,go_sem]) rfl
  case s1=>
   intro w' ev hE hk ha hc hf
   have e6:ev (.tmp 6) = .pointer (some ⟨w.heap.size,0,none⟩):=hk.1 _ rfl
   have c0:w'.cell? ⟨w.heap.size,0,none⟩=some (.bool b):=hE.cellv ((((Blk.new _ _ _).alloc _).alloc _).drew.cell 0)
   have c1:w'.cell? ⟨w.heap.size,1,none⟩=some (.slice A n c):=hE.cellv ((((Blk.new _ _ _).alloc _).alloc _).drew.cell 1)
   exact Ag (by simp [execOp,e6,c0,c1,go_sem]) rfl
  case s2=>
   intro w' ev hE hk ha hc hf
   have e3:ev (.tmp 3) = .pointer (some ⟨w.heap.size+1,0,none⟩):=ha 3 (by decide)
   exact Ag (by simp [execOp,e3,go_sem]) rfl
  case s3=>
   intro w' ev hE hk ha hc hf
   have e8:ev (.tmp 8) = .pointer (some ⟨w.heap.size+1,2,none⟩):=hk.1 _ rfl
   have c0:w'.cell? ⟨w.heap.size+1,2,none⟩=some (.bool d'):=hE.cellv (((AW _ _ (by simp)).alloc _).drew.cell 2)
   have c1:w'.cell? ⟨w.heap.size+1,3,none⟩=some (.slice E' m' k'):=hE.cellv (((AW _ _ (by simp)).alloc _).drew.cell 3)
   exact Ag (by simp [execOp,e8,c0,c1,go_sem]) rfl
  case s4=>
   intro w' ev hE hk ha hc hf
   have e7:ev (.tmp 7) = .agg #[.bool b,.slice A n c]:=hk.1 _ rfl
   have e9:ev (.tmp 9) = .agg #[.bool d',.slice E' m' k']:=hk.2.1 _ rfl
   exact Eg (by simp [execOp,e7,e9,go_sem]) ((Ext.refl _).alloc _) ⟨_,rfl,Blk.new _ _ _⟩
  case s5=>
   intro w' ev hE hk ha hc hf
   have f10:=hk.1 _ rfl
   obtain ⟨g1,e10,hB⟩:=f10
   refine Aw (by simp [execOp,resolve,invoke,hf,e10,go_sem]) (Gu _ _ _ _ _ _ _ _ _ _ _ _ hB (h.out.1.ext (((((Ext.refl _).alloc _).alloc _).alloc _).drew.trans hE)) (h'.out.2.ext (((((Ext.refl _).alloc _).alloc _).alloc _).drew.trans hE)) l1.out l2.out) ?_
   rintro e w1 ⟨b1,A1,n1,k1,rfl,hI1,hE1⟩
   exact ⟨_,rfl,hE1,b1,A1,n1,k1,rfl,hI1⟩
  case s6=>
   intro w' ev hE hk ha hc hf
   have e3:ev (.tmp 3) = .pointer (some ⟨w.heap.size+1,0,none⟩):=ha 3 (by decide)
   exact Ag (by simp [execOp,e3,go_sem]) rfl
  case s7=>
   intro w' ev hE hk ha hc hf
   have e12:ev (.tmp 12) = .pointer (some ⟨w.heap.size+1,0,none⟩):=hk.1 _ rfl
   have c0:w'.cell? ⟨w.heap.size+1,0,none⟩=some (.bool d):=hE.cellv (((AW _ _ (by simp)).alloc _).drew.cell 0)
   have c1:w'.cell? ⟨w.heap.size+1,1,none⟩=some (.slice E m k):=hE.cellv (((AW _ _ (by simp)).alloc _).drew.cell 1)
   exact Ag (by simp [execOp,e12,c0,c1,go_sem]) rfl
  case s8=>
   intro w' ev hE hk ha hc hf
   have e2:ev (.tmp 2) = .pointer (some ⟨w.heap.size,0,none⟩):=ha 2 (by decide)
   exact Ag (by simp [execOp,e2,go_sem]) rfl
  case s9=>
   intro w' ev hE hk ha hc hf
   have e14:ev (.tmp 14) = .pointer (some ⟨w.heap.size,2,none⟩):=hk.1 _ rfl
   have c0:w'.cell? ⟨w.heap.size,2,none⟩=some (.bool b'):=hE.cellv ((((Blk.new _ _ _).alloc _).alloc _).drew.cell 2)
   have c1:w'.cell? ⟨w.heap.size,3,none⟩=some (.slice A' n' c'):=hE.cellv ((((Blk.new _ _ _).alloc _).alloc _).drew.cell 3)
   exact Ag (by simp [execOp,e14,c0,c1,go_sem]) rfl
  case s10=>
   intro w' ev hE hk ha hc hf
   have e13:ev (.tmp 13) = .agg #[.bool d,.slice E m k]:=hk.1 _ rfl
   have e15:ev (.tmp 15) = .agg #[.bool b',.slice A' n' c']:=hk.2.1 _ rfl
   exact Eg (by simp [execOp,e13,e15,go_sem]) ((Ext.refl _).alloc _) ⟨_,rfl,Blk.new _ _ _⟩
  case s11=>
   intro w' ev hE hk ha hc hf
   have f16:=hk.1 _ rfl
   obtain ⟨g1,e16,hB⟩:=f16
   refine Aw (by simp [execOp,resolve,invoke,hf,e16,go_sem]) (Gu _ _ _ _ _ _ _ _ _ _ _ _ hB (h'.out.1.ext (((((Ext.refl _).alloc _).alloc _).alloc _).drew.trans hE)) (h.out.2.ext (((((Ext.refl _).alloc _).alloc _).alloc _).drew.trans hE)) l3.out l4.out) ?_
   rintro e w1 ⟨b1,A1,n1,k1,rfl,hI1,hE1⟩
   exact ⟨_,rfl,hE1,b1,A1,n1,k1,rfl,hI1⟩
  case s12=>
   intro w' ev hE hk ha hc hf
   have f11:=hk.1 _ rfl
   have f17:=hk.2.1 _ rfl
   obtain ⟨b1,A1,n1,c1,e11,hI⟩:=f11
   obtain ⟨b2,A2,n2,c2,e17,hI'⟩:=f17
   refine Aw (by simp [execOp,resolve,invoke,hf,e11,e17,go_sem]) (A12 _ _ _ _ _ _ _ _ _ _ _ hI hI' m1.out m2.out) ?_
   rintro e w1 ⟨b1,A1,n1,k1,rfl,hI1,hE1⟩
   exact ⟨_,rfl,hE1,b1,A1,n1,k1,rfl,hI1⟩
  case s13=>
   intro w' ev hE hk ha hc hf
   exact Eg (by simp [execOp,go_sem]) ((Ext.refl _).alloc _) ⟨_,rfl,by have:=hE.size;simp at this;omega,Blk.new _ _ _⟩
 case fin=>
  intro g w' hE hF
  obtain ⟨b5,A5,n5,c5,e5,hI5⟩:=hF 12 _ rfl
  obtain ⟨gg,e6,hgg,hB6⟩:=hF 13 _ rfl
  simp only [List.length_cons,List.length_nil,Nat.reduceAdd,List.drop_succ_cons,List.drop_zero,List.take_succ_cons,List.take_zero,CM,Act.put,List.setIfInBounds_toArray,List.set_cons_succ,List.set_cons_zero,e5,e6]
  clear hF e5 e6
  have y0:w'.cell? ⟨gg,0,none⟩=some (.bool false):=hB6.cell 0
  have y1:w'.cell? ⟨gg,1,none⟩=some (.slice none 0 0):=hB6.cell 1
  have y2:=hB6.frozen 0
  have y3:=hB6.frozen 1
  replace hI5:=Ac hI5
  replace hB6:=Ac hB6
  replace hE:=Ac hE
  go_wp2
  have hEw:=((((Ext.refl _).alloc _).alloc _).alloc _).drew.trans hE.out
  have f1:=(hB6.out.set 0 (.bool b5)).set 1 (.slice A5 n5 c5)
  have f2:Blk (put2 w' gg (.bool b5) (.slice A5 n5 c5)) w.heap.size 42 #[.bool b,.slice A n c,.bool b',.slice A' n' c']:=(((((Blk.new _ _ _).alloc _).alloc _).drew.ext hE.out).far (p:=⟨gg,0,none⟩) (by simp;omega) _).far (p:=⟨gg,1,none⟩) (by simp;omega) _
  have f3:Blk (put2 w' gg (.bool b5) (.slice A5 n5 c5)) (w.heap.size+1) 42 #[.bool d,.slice E m k,.bool d',.slice E' m' k']:=((((AW _ _ (by simp)).alloc _).drew.ext hE.out).far (p:=⟨gg,0,none⟩) (by simp;omega) _).far (p:=⟨gg,1,none⟩) (by simp;omega) _
  have f4:Blk (put2 w' gg (.bool b5) (.slice A5 n5 c5)) (w.heap.size+2) 42 #[.bool false,.slice none 0 0,.bool false,.slice none 0 0]:=(((AW _ _ (by simp)).drew.ext hE.out).far (p:=⟨gg,0,none⟩) (by simp;omega) _).far (p:=⟨gg,1,none⟩) (by simp;omega) _
  have t6:=hB6.out.ty
  have fI:=hI5.out.put2 t6 (by decide) (.bool b5) (.slice A5 n5 c5)
  have fE:=hEw.put2 (b:=gg) (by omega) (.bool b5) (.slice A5 n5 c5)
  rw [Uo] at f1 ⊢
  generalize put2 w' gg (.bool b5) (.slice A5 n5 c5)=w2 at *
  clear y0 y1 y2 y3 hI5 hB6 hE t6 hEw
  replace f1:=Ac f1
  replace f2:=Ac f2
  replace f3:=Ac f3
  replace f4:=Ac f4
  replace fI:=Ac fI
  replace fE:=Ac fE
  refine wp_region_v (by kernel_rfl) [[], [], [(20, 1)], [], [(22, 3)], [(21, 2), (23, 4)], [(24, 5)], [(19, 0), (25, 6)]] [[], [], [1], [], [3], [1, 2, 3, 4], [1, 2, 3, 4, 5], [0, 1, 2, 3, 4, 5, 6]]
   [λv _=>v = .agg #[.bool b5,.slice A5 n5 c5],λv _=>v = .pointer (some ⟨w.heap.size,2,none⟩),λv _=>v = .agg #[.bool b',.slice A' n' c'],λv _=>v = .pointer (some ⟨w.heap.size+1,2,none⟩),λv _=>v = .agg #[.bool d',.slice E' m' k'],λv w'=>∃g,v = .slice (some ⟨g,0,none⟩) 2 2/\Blk w' g 40 #[.bool b',.slice A' n' c',.bool d',.slice E' m' k'],λv w'=>∃b A n c,v = .agg #[.bool b,.slice A n c]/\IsInt w' (.bool b) (.slice A n c) ((p.den:Int)*(q.den:Int)),λv w'=>∃b A n c b' A' n' c',v = .agg #[.bool b,.slice A n c,.bool b',.slice A' n' c']/\IsRat w' (.bool b) (.slice A n c) (.bool b') (.slice A' n' c') (Rat.divInt (p.num*(q.den:Int)+q.num*(p.den:Int)) ((p.den:Int)*(q.den:Int)))]
   rfl (by kernel_rfl) (by kernel_rfl) ?stab ?steps ?fin
  case stab=>exact .cons (Stab.eq _) (.cons (Stab.eq _) (.cons (Stab.eq _) (.cons (Stab.eq _) (.cons (Stab.eq _) (.cons (λ_ _ _ he ⟨g,h1,h2⟩=>⟨g,h1,h2.ext he⟩) (.cons (λ_ _ _ he ⟨b,A,n,c,h1,h2⟩=>⟨b,A,n,c,h1,h2.ext he⟩) (.cons (λ_ _ _ he ⟨b,A,n,c,b',A',n',c',h1,h2⟩=>⟨b,A,n,c,b',A',n',c',h1,h2.ext he⟩) .nil)))))))
  case steps=>
   refine .cons ?s0 (.cons ?s1 (.cons ?s2 (.cons ?s3 (.cons ?s4 (.cons ?s5 (.cons ?s6 (.cons ?s7 .nil)))))))
   case s0=>
    intro w' ev hE hk ha hc hf
    have e5:ev (.tmp 5) = .pointer (some ⟨gg,0,none⟩):=ha 5 (by decide)
    have c0:w'.cell? ⟨gg,0,none⟩=some (.bool b5):=hE.cellv ((f1.out.drew.cell 0))
    have c1:w'.cell? ⟨gg,1,none⟩=some (.slice A5 n5 c5):=hE.cellv ((f1.out.drew.cell 1))
    exact Ag (by simp [execOp,e5,c0,c1,go_sem]) rfl
   case s1=>
    intro w' ev hE hk ha hc hf
    have e2:ev (.tmp 2) = .pointer (some ⟨w.heap.size,0,none⟩):=ha 2 (by decide)
    exact Ag (by simp [execOp,e2,go_sem]) rfl
   case s2=>
    intro w' ev hE hk ha hc hf
    have e20:ev (.tmp 20) = .pointer (some ⟨w.heap.size,2,none⟩):=hk.1 _ rfl
    have c0:w'.cell? ⟨w.heap.size,2,none⟩=some (.bool b'):=hE.cellv ((f2.out.drew.cell 2))
    have c1:w'.cell? ⟨w.heap.size,3,none⟩=some (.slice A' n' c'):=hE.cellv ((f2.out.drew.cell 3))
    exact Ag (by simp [execOp,e20,c0,c1,go_sem]) rfl
   case s3=>
    intro w' ev hE hk ha hc hf
    have e3:ev (.tmp 3) = .pointer (some ⟨w.heap.size+1,0,none⟩):=ha 3 (by decide)
    exact Ag (by simp [execOp,e3,go_sem]) rfl
   case s4=>
    intro w' ev hE hk ha hc hf
    have e22:ev (.tmp 22) = .pointer (some ⟨w.heap.size+1,2,none⟩):=hk.1 _ rfl
    have c0:w'.cell? ⟨w.heap.size+1,2,none⟩=some (.bool d'):=hE.cellv ((f3.out.drew.cell 2))
    have c1:w'.cell? ⟨w.heap.size+1,3,none⟩=some (.slice E' m' k'):=hE.cellv ((f3.out.drew.cell 3))
    exact Ag (by simp [execOp,e22,c0,c1,go_sem]) rfl
   case s5=>
    intro w' ev hE hk ha hc hf
    have e21:ev (.tmp 21) = .agg #[.bool b',.slice A' n' c']:=hk.1 _ rfl
    have e23:ev (.tmp 23) = .agg #[.bool d',.slice E' m' k']:=hk.2.1 _ rfl
    exact Eg (by simp [execOp,e21,e23,go_sem]) ((Ext.refl _).alloc _) ⟨_,rfl,Blk.new _ _ _⟩
   case s6=>
    intro w' ev hE hk ha hc hf
    have f24:=hk.1 _ rfl
    obtain ⟨g1,e24,hB⟩:=f24
    refine Aw (by simp [execOp,resolve,invoke,hf,e24,go_sem]) (Gu _ _ _ _ _ _ _ _ _ _ _ _ hB (h.out.2.ext (fE.out.trans ((Ext.refl _).drew.trans hE))) (h'.out.2.ext (fE.out.trans ((Ext.refl _).drew.trans hE))) l4.out l2.out) ?_
    rintro e w1 ⟨b1,A1,n1,k1,rfl,hI1,hE1⟩
    exact ⟨_,rfl,hE1,b1,A1,n1,k1,rfl,hI1⟩
   case s7=>
    intro w' ev hE hk ha hc hf
    have e19:ev (.tmp 19) = .agg #[.bool b5,.slice A5 n5 c5]:=hk.1 _ rfl
    have f25:=hk.2.1 _ rfl
    obtain ⟨b2,A2,n2,c2,e25,hI'⟩:=f25
    refine Aw (by simp [execOp,resolve,invoke,hf,e19,e25,go_sem]) (IG _ _ _ _ _ _ _ _ _ _ _ (fI.out.ext ((Ext.refl _).drew.trans hE)) hI' m3.out m4.out (Int.mul_pos (den_pos p) (den_pos q))) ?_
    rintro e w1 ⟨b1,b2,A1,A2,n1,k1,n2,k2,rfl,hI1,hE1⟩
    exact ⟨_,rfl,hE1,b1,A1,n1,k1,b2,A2,n2,k2,rfl,hI1⟩
  case fin=>
   intro g w' hE hF
   obtain ⟨b7,A7,n7,c7,b8,A8,n8,c8,e7,hI7⟩:=hF 7 _ rfl
   simp only [List.length_cons,List.length_nil,Nat.reduceAdd,List.drop_succ_cons,List.drop_zero,List.take_succ_cons,List.take_zero,CM,Act.put,List.setIfInBounds_toArray,List.set_cons_succ,List.set_cons_zero,e7]
   clear hF e7
   rw [<-Kl] at hI7
   have f5:=f4.out.ext ((Ext.refl _).drew.trans hE)
   have y0:w'.cell? ⟨w.heap.size+2,0,none⟩=some (.bool false):=f5.cell 0
   have y1:w'.cell? ⟨w.heap.size+2,1,none⟩=some (.slice none 0 0):=f5.cell 1
   have y2:w'.cell? ⟨w.heap.size+2,2,none⟩=some (.bool false):=f5.cell 2
   have y3:w'.cell? ⟨w.heap.size+2,3,none⟩=some (.slice none 0 0):=f5.cell 3
   have y4:=f5.frozen 0
   have y5:=f5.frozen 1
   have y6:=f5.frozen 2
   have y7:=f5.frozen 3
   have t5:=Ac f5.ty
   replace hI7:=Ac hI7
   replace hE:=Ac (fE.out.trans ((Ext.refl _).drew.trans hE))
   clear f5
   go_wp2
   refine bodyPost_ret (v:=.agg #[.bool b7,.slice A7 n7 c7,.bool b8,.slice A8 n8 c8]) (by simp [results,Tryz.results100,go_sem,y0,y1,y2,y3]) rfl ⟨_,_,_,_,_,_,_,_,rfl,?_,?_⟩
   .exact hI7.out.put4 (b:=w.heap.size+2) t5.out (by decide) (.bool b7) (.slice A7 n7 c7) (.bool b8) (.slice A8 n8 c8)
   .exact hE.out.put4 (b:=w.heap.size+2) (by omega) (.bool b7) (.slice A7 n7 c7) (.bool b8) (.slice A8 n8 c8)
theorem A13(b b':Bool)(A A':Option Addr)(n c n' c':Nat)(d d':Bool)(E E':Option Addr)(m k m' k':Nat)(p q:Rat)(N M:Nat)(w:World)(h:IsRat w (.bool b) (.slice A n c) (.bool b') (.slice A' n' c') p)(h':IsRat w (.bool d) (.slice E m k) (.bool d') (.slice E' m' k') q)(hp:RSz p N)(hq:RSz q M)(hN:N+M+1<=4398046511104) :
  Calls Tryz.prog 73 #[.agg #[.bool b,.slice A n c,.bool b',.slice A' n' c'],.agg #[.bool d,.slice E m k,.bool d',.slice E' m' k']] w (ES (p-q) w):=by
 have hsub:p-q=p + -q:=Rat.sub_eq_add_neg p q
 rw [hsub]
 clear hsub
 replace h:=Ac h
 replace h':=Ac h'
 replace hp:=Ac hp
 replace hq:=Ac hq
 go_enter Tryz.func73,Tryz.ntmps73
 go_wp2
 refine wp_region_v (by kernel_rfl) [[], [], [(6, 1)], [(5, 0), (7, 2)]] [[], [], [1], [0, 1, 2]]
  [λv _=>v = .agg #[.bool b,.slice A n c,.bool b',.slice A' n' c'],λv _=>v = .agg #[.bool d,.slice E m k,.bool d',.slice E' m' k'],λv w'=>∃b A n c b' A' n' c',v = .agg #[.bool b,.slice A n c,.bool b',.slice A' n' c']/\IsRat w' (.bool b) (.slice A n c) (.bool b') (.slice A' n' c') (-q),λv w'=>∃b A n c b' A' n' c',v = .agg #[.bool b,.slice A n c,.bool b',.slice A' n' c']/\IsRat w' (.bool b) (.slice A n c) (.bool b') (.slice A' n' c') (p + -q)]
  rfl (by kernel_rfl) (by kernel_rfl) ?stab ?steps ?fin
 case stab=>exact .cons (Stab.eq _) (.cons (Stab.eq _) (.cons (λ_ _ _ he ⟨b,A,n,c,b',A',n',c',h1,h2⟩=>⟨b,A,n,c,b',A',n',c',h1,h2.ext he⟩) (.cons (λ_ _ _ he ⟨b,A,n,c,b',A',n',c',h1,h2⟩=>⟨b,A,n,c,b',A',n',c',h1,h2.ext he⟩) .nil)))
 case steps=>
  refine .cons ?s0 (.cons ?s1 (.cons ?s2 (.cons ?s3 .nil)))
  case s0=>
   intro w' ev hE hk ha hc hf
   have e2:ev (.tmp 2) = .pointer (some ⟨w.heap.size,0,none⟩):=ha 2 (by decide)
   have c0:w'.cell? ⟨w.heap.size,0,none⟩=some (.bool b):=hE.cellv ((((Blk.new _ _ _).alloc _).alloc _).drew.cell 0)
   have c1:w'.cell? ⟨w.heap.size,1,none⟩=some (.slice A n c):=hE.cellv ((((Blk.new _ _ _).alloc _).alloc _).drew.cell 1)
   have c2:w'.cell? ⟨w.heap.size,2,none⟩=some (.bool b'):=hE.cellv ((((Blk.new _ _ _).alloc _).alloc _).drew.cell 2)
   have c3:w'.cell? ⟨w.heap.size,3,none⟩=some (.slice A' n' c'):=hE.cellv ((((Blk.new _ _ _).alloc _).alloc _).drew.cell 3)
   exact Ag (by simp [execOp,e2,c0,c1,c2,c3,go_sem]) rfl
  case s1=>
   intro w' ev hE hk ha hc hf
   have e3:ev (.tmp 3) = .pointer (some ⟨w.heap.size+1,0,none⟩):=ha 3 (by decide)
   have c0:w'.cell? ⟨w.heap.size+1,0,none⟩=some (.bool d):=hE.cellv (((AW _ _ (by simp)).alloc _).drew.cell 0)
   have c1:w'.cell? ⟨w.heap.size+1,1,none⟩=some (.slice E m k):=hE.cellv (((AW _ _ (by simp)).alloc _).drew.cell 1)
   have c2:w'.cell? ⟨w.heap.size+1,2,none⟩=some (.bool d'):=hE.cellv (((AW _ _ (by simp)).alloc _).drew.cell 2)
   have c3:w'.cell? ⟨w.heap.size+1,3,none⟩=some (.slice E' m' k'):=hE.cellv (((AW _ _ (by simp)).alloc _).drew.cell 3)
   exact Ag (by simp [execOp,e3,c0,c1,c2,c3,go_sem]) rfl
  case s2=>
   intro w' ev hE hk ha hc hf
   have e6:ev (.tmp 6) = .agg #[.bool d,.slice E m k,.bool d',.slice E' m' k']:=hk.1 _ rfl
   refine Aw (by simp [execOp,resolve,invoke,hf,e6,go_sem]) (A1m _ _ _ _ _ _ _ _ _ _ (h'.out.ext (((((Ext.refl _).alloc _).alloc _).alloc _).drew.trans hE)) (Nat.le_trans hq.out.1 (by omega))) ?_
   rintro e w1 ⟨b1,b2,A1,A2,n1,k1,n2,k2,rfl,hI1,hE1⟩
   exact ⟨_,rfl,hE1,b1,A1,n1,k1,b2,A2,n2,k2,rfl,hI1⟩
  case s3=>
   intro w' ev hE hk ha hc hf
   have e5:ev (.tmp 5) = .agg #[.bool b,.slice A n c,.bool b',.slice A' n' c']:=hk.1 _ rfl
   have f7:=hk.2.1 _ rfl
   obtain ⟨b1,A1,n1,c1,b2,A2,n2,c2,e7,hI⟩:=f7
   refine Aw (by simp [execOp,resolve,invoke,hf,e5,e7,go_sem]) (Qb _ _ _ _ _ _ _ _ _ _ _ _ _ _ _ _ _ _ N M _ (h.out.ext (((((Ext.refl _).alloc _).alloc _).alloc _).drew.trans hE)) hI hp.out hq.out.neg hN) ?_
   rintro e w1 ⟨b1,b2,A1,A2,n1,k1,n2,k2,rfl,hI1,hE1⟩
   exact ⟨_,rfl,hE1,b1,A1,n1,k1,b2,A2,n2,k2,rfl,hI1⟩
 case fin=>
  intro g w' hE hF
  obtain ⟨b5,A5,n5,c5,b6,A6,n6,c6,e5,hI5⟩:=hF 3 _ rfl
  simp only [List.length_cons,List.length_nil,Nat.reduceAdd,List.drop_succ_cons,List.drop_zero,List.take_succ_cons,List.take_zero,CM,Act.put,List.setIfInBounds_toArray,List.set_cons_succ,List.set_cons_zero,e5]
  clear hF e5
  replace hI5:=Ac hI5
  obtain ⟨hcell,hfr⟩:=hE.cells
  replace hE:=Ac hE
  go_wp2
  refine bodyPost_ret (v:=.agg #[.bool b5,.slice A5 n5 c5,.bool b6,.slice A6 n6 c6]) (by simp [results,Tryz.results73,go_sem,hcell]) rfl ⟨_,_,_,_,_,_,_,_,rfl,?_,?_⟩
  .have ht:Ty w' (w.heap.size+2) 42:=(Br _ _ (by simp)).drew.ext hE.out
   exact hI5.out.put4 (b:=w.heap.size+2) ht (by decide) (.bool b5) (.slice A5 n5 c5) (.bool b6) (.slice A6 n6 c6)
  .exact (((((Ext.refl _).alloc _).alloc _).alloc _).drew.trans hE.out).put4 (b:=w.heap.size+2) (by omega) (.bool b5) (.slice A5 n5 c5) (.bool b6) (.slice A6 n6 c6)
def MO(q:Rat)(w:World)(e:Ending)(w':World):Prop:=
 ∃(b b':Bool) (A A':Option Addr) (n c n' c':Nat),e = .returned (.tuple #[.agg #[.bool b,.slice A n c,.bool b',.slice A' n' c'],.int .i64 0])/\IsRat w' (.bool b) (.slice A n c) (.bool b') (.slice A' n' c') q/\Ext w w'
theorem A1n(b b':Bool)(A A':Option Addr)(n c n' c':Nat)(p:Rat)(w:World)(h:IsRat w (.bool b) (.slice A n c) (.bool b') (.slice A' n' c') p)(hn:(Am p.num.natAbs).length<=4398046511104)(hd:(Am (p.den:Int).natAbs).length<=4398046511104)(h0:p.num≠0) :
  Calls Tryz.prog 99 #[.agg #[.bool b,.slice A n c,.bool b',.slice A' n' c']] w (MO p⁻¹ w):=by
 replace h:=Ac h
 replace hn:=Ac hn
 replace hd:=Ac hd
 go_enter Tryz.func99,Tryz.ntmps99
 go_wp2_with fail
 refine (LE _ _ _ _ _ _ (h.out.1.ext (((Ext.refl _).alloc _).alloc _))).mono ?_
 rintro e w1 ⟨rfl,hE1⟩
 have B0:Blk w1 w.heap.size 42 #[.bool b,.slice A n c,.bool b',.slice A' n' c']:=(((Blk.new _ _ _).alloc _)).ext hE1
 have B1:Blk w1 (w.heap.size+1) 42 #[.bool false,.slice none 0 0,.bool false,.slice none 0 0]:=((AW _ _ (by simp))).ext hE1
 replace hE1:=Ac ((((Ext.refl _).alloc _).alloc _).trans hE1)
 have x0:w1.cell? ⟨w.heap.size,0,none⟩=some (.bool b):=B0.cell 0
 have x1:w1.cell? ⟨w.heap.size,1,none⟩=some (.slice A n c):=B0.cell 1
 have x2:w1.cell? ⟨w.heap.size,2,none⟩=some (.bool b'):=B0.cell 2
 have x3:w1.cell? ⟨w.heap.size,3,none⟩=some (.slice A' n' c'):=B0.cell 3
 have y0:w1.cell? ⟨w.heap.size+1,0,none⟩=some (.bool false):=B1.cell 0
 have y1:w1.cell? ⟨w.heap.size+1,1,none⟩=some (.slice none 0 0):=B1.cell 1
 have y2:w1.cell? ⟨w.heap.size+1,2,none⟩=some (.bool false):=B1.cell 2
 have y3:w1.cell? ⟨w.heap.size+1,3,none⟩=some (.slice none 0 0):=B1.cell 3
 have y4:=B1.frozen 0
 have y5:=B1.frozen 1
 have y6:=B1.frozen 2
 have y7:=B1.frozen 3
 replace B0:=Ac B0
 replace B1:=Ac B1
 rcases Int.lt_or_gt_of_ne h0 with hneg | hpos
 .obtain ⟨i1,i2⟩:=Ir p hneg
  rw [Int.sign_eq_neg_one_of_neg hneg]
  clear h0 hneg
  replace i1:=Ac i1
  replace i2:=Ac i2
  go_wp2
  refine wp_region_v (by kernel_rfl) [[], [(12, 0)], [(13, 1)], [], [(15, 3)], [(16, 4)], [(14, 2), (17, 5)]] [[], [0], [0, 1], [], [3], [0, 1, 2, 3, 4], [0, 1, 2, 3, 4, 5]]
   [λv _=>v = .pointer (some ⟨w.heap.size,2,none⟩),λv _=>v = .agg #[.bool b',.slice A' n' c'],λv w'=>∃b A n c,v = .agg #[.bool b,.slice A n c]/\IsInt w' (.bool b) (.slice A n c) (-(p.den:Int)),λv _=>v = .pointer (some ⟨w.heap.size,0,none⟩),λv _=>v = .agg #[.bool b,.slice A n c],λv w'=>∃b A n c,v = .agg #[.bool b,.slice A n c]/\IsInt w' (.bool b) (.slice A n c) (-p.num),λv w'=>∃b A n c b' A' n' c',v = .agg #[.bool b,.slice A n c,.bool b',.slice A' n' c']/\IsRat w' (.bool b) (.slice A n c) (.bool b') (.slice A' n' c') (p⁻¹)]
   rfl (by kernel_rfl) (by kernel_rfl) ?stab ?steps ?fin
  case stab=>exact .cons (Stab.eq _) (.cons (Stab.eq _) (.cons (λ_ _ _ he ⟨b,A,n,c,h1,h2⟩=>⟨b,A,n,c,h1,h2.ext he⟩) (.cons (Stab.eq _) (.cons (Stab.eq _) (.cons (λ_ _ _ he ⟨b,A,n,c,h1,h2⟩=>⟨b,A,n,c,h1,h2.ext he⟩) (.cons (λ_ _ _ he ⟨b,A,n,c,b',A',n',c',h1,h2⟩=>⟨b,A,n,c,b',A',n',c',h1,h2.ext he⟩) .nil))))))
  case steps=>
   refine .cons ?s0 (.cons ?s1 (.cons ?s2 (.cons ?s3 (.cons ?s4 (.cons ?s5 (.cons ?s6 .nil))))))
   case s0=>
    intro w' ev hE hk ha hc hf
    have e1:ev (.tmp 1) = .pointer (some ⟨w.heap.size,0,none⟩):=ha 1 (by decide)
    exact Ag (by simp [execOp,e1,go_sem]) rfl
   case s1=>
    intro w' ev hE hk ha hc hf
    have e12:ev (.tmp 12) = .pointer (some ⟨w.heap.size,2,none⟩):=hk.1 _ rfl
    have c0:w'.cell? ⟨w.heap.size,2,none⟩=some (.bool b'):=hE.cellv (B0.out.drew.cell 2)
    have c1:w'.cell? ⟨w.heap.size,3,none⟩=some (.slice A' n' c'):=hE.cellv (B0.out.drew.cell 3)
    exact Ag (by simp [execOp,e12,c0,c1,go_sem]) rfl
   case s2=>
    intro w' ev hE hk ha hc hf
    have e13:ev (.tmp 13) = .agg #[.bool b',.slice A' n' c']:=hk.1 _ rfl
    refine Aw (by simp [execOp,resolve,invoke,hf,e13,go_sem]) (OW _ _ _ _ _ _ (h.out.2.ext (hE1.out.trans ((Ext.refl _).drew.trans hE))) hd.out) ?_
    rintro e w1 ⟨b1,A1,n1,k1,rfl,hI1,hE1⟩
    exact ⟨_,rfl,hE1,b1,A1,n1,k1,rfl,hI1⟩
   case s3=>
    intro w' ev hE hk ha hc hf
    have e1:ev (.tmp 1) = .pointer (some ⟨w.heap.size,0,none⟩):=ha 1 (by decide)
    exact Ag (by simp [execOp,e1,go_sem]) rfl
   case s4=>
    intro w' ev hE hk ha hc hf
    have e15:ev (.tmp 15) = .pointer (some ⟨w.heap.size,0,none⟩):=hk.1 _ rfl
    have c0:w'.cell? ⟨w.heap.size,0,none⟩=some (.bool b):=hE.cellv (B0.out.drew.cell 0)
    have c1:w'.cell? ⟨w.heap.size,1,none⟩=some (.slice A n c):=hE.cellv (B0.out.drew.cell 1)
    exact Ag (by simp [execOp,e15,c0,c1,go_sem]) rfl
   case s5=>
    intro w' ev hE hk ha hc hf
    have e16:ev (.tmp 16) = .agg #[.bool b,.slice A n c]:=hk.1 _ rfl
    refine Aw (by simp [execOp,resolve,invoke,hf,e16,go_sem]) (OW _ _ _ _ _ _ (h.out.1.ext (hE1.out.trans ((Ext.refl _).drew.trans hE))) hn.out) ?_
    rintro e w1 ⟨b1,A1,n1,k1,rfl,hI1,hE1⟩
    exact ⟨_,rfl,hE1,b1,A1,n1,k1,rfl,hI1⟩
   case s6=>
    intro w' ev hE hk ha hc hf
    have f14:=hk.1 _ rfl
    have f17:=hk.2.1 _ rfl
    obtain ⟨b1,A1,n1,c1,e14,hI⟩:=f14
    obtain ⟨b2,A2,n2,c2,e17,hI'⟩:=f17
    exact Ag (v:=.agg #[.bool b1,.slice A1 n1 c1,.bool b2,.slice A2 n2 c2]) (by simp [execOp,e14,e17,go_sem]) ⟨_,_,_,_,_,_,_,_,rfl,by rw [i1.out];exact hI,by rw [i2.out];exact hI'⟩
  case fin=>
   intro g w' hE hF
   obtain ⟨b5,A5,n5,c5,b6,A6,n6,c6,e5,hI5⟩:=hF 6 _ rfl
   simp only [List.length_cons,List.length_nil,Nat.reduceAdd,List.drop_succ_cons,List.drop_zero,List.take_succ_cons,List.take_zero,CM,Act.put,List.setIfInBounds_toArray,List.set_cons_succ,List.set_cons_zero,e5]
   clear hF e5
   have f5:=B1.out.ext ((Ext.refl _).drew.trans hE)
   clear y0 y1 y2 y3 y4 y5 y6 y7
   have y0:w'.cell? ⟨w.heap.size+1,0,none⟩=some (.bool false):=f5.cell 0
   have y1:w'.cell? ⟨w.heap.size+1,1,none⟩=some (.slice none 0 0):=f5.cell 1
   have y2:w'.cell? ⟨w.heap.size+1,2,none⟩=some (.bool false):=f5.cell 2
   have y3:w'.cell? ⟨w.heap.size+1,3,none⟩=some (.slice none 0 0):=f5.cell 3
   have y4:=f5.frozen 0
   have y5:=f5.frozen 1
   have y6:=f5.frozen 2
   have y7:=f5.frozen 3
   have t5:=Ac f5.ty
   replace hI5:=Ac hI5
   replace hE:=Ac (hE1.out.trans ((Ext.refl _).drew.trans hE))
   clear f5
   go_wp2
   refine bodyPost_ret (v:=.tuple #[.agg #[.bool b5,.slice A5 n5 c5,.bool b6,.slice A6 n6 c6],.int .i64 0]) (by simp [results,Tryz.results99,go_sem,y0,y1,y2,y3]) rfl ⟨_,_,_,_,_,_,_,_,rfl,?_,?_⟩
   .exact hI5.out.put4 (b:=w.heap.size+1) t5.out (by decide) (.bool b5) (.slice A5 n5 c5) (.bool b6) (.slice A6 n6 c6)
   .exact hE.out.put4 (b:=w.heap.size+1) (by omega) (.bool b5) (.slice A5 n5 c5) (.bool b6) (.slice A6 n6 c6)
 .obtain ⟨i1,i2⟩:=Iq p hpos
  rw [Int.sign_eq_one_of_pos hpos]
  clear h0 hpos
  replace i1:=Ac i1
  replace i2:=Ac i2
  go_wp2
  refine bodyPost_ret (v:=.tuple #[.agg #[.bool b',.slice A' n' c',.bool b,.slice A n c],.int .i64 0]) (by simp [results,Tryz.results99,go_sem,y0,y1,y2,y3]) rfl ⟨_,_,_,_,_,_,_,_,rfl,?_,?_⟩
  .have hI:IsRat w1 (.bool b') (.slice A' n' c') (.bool b) (.slice A n c) p⁻¹:=⟨by rw [i1.out]; exact h.out.2.ext hE1.out, by rw [i2.out]; exact h.out.1.ext hE1.out⟩
   exact hI.put4 (b:=w.heap.size+1) B1.out.ty (by decide) (.bool b') (.slice A' n' c') (.bool b) (.slice A n c)
  .exact hE1.out.put4 (b:=w.heap.size+1) (by omega) (.bool b') (.slice A' n' c') (.bool b) (.slice A n c)
theorem A1q(b b':Bool)(A A':Option Addr)(n c n' c':Nat)(d d':Bool)(E E':Option Addr)(m k m' k':Nat)(p q:Rat)(N M:Nat)(w:World)(h:IsRat w (.bool b) (.slice A n c) (.bool b') (.slice A' n' c') p)(h':IsRat w (.bool d) (.slice E m k) (.bool d') (.slice E' m' k') q)(hp:RSz p N)(hq:RSz q M)(hN:N+M<=4398046511104)(h0:q.num≠0) :
  Calls Tryz.prog 72 #[.agg #[.bool b,.slice A n c,.bool b',.slice A' n' c'],.agg #[.bool d,.slice E m k,.bool d',.slice E' m' k']] w (MO (p/q) w):=by
 rw [Rat.div_def]
 replace h:=Ac h
 replace h':=Ac h'
 replace hp:=Ac hp
 replace hq:=Ac hq
 have l1:Hid ((Am q.num.natAbs).length<=4398046511104):=Nat.le_trans hq.out.1 (by omega)
 have l2:Hid ((Am (q.den:Int).natAbs).length<=4398046511104):=Nat.le_trans (Cs q hq.out) (by omega)
 replace h0:=Ac h0
 replace hN:=Ac hN
 go_enter Tryz.func72,Tryz.ntmps72
 go_wp2_with fail
 refine (A1n _ _ _ _ _ _ _ _ _ _ (h'.out.ext ((((Ext.refl _).alloc _).alloc _).alloc _)) l1.out l2.out h0.out).mono ?_
 rintro e w1 ⟨b1,b2,A1,A2,n1,c1,n2,c2,rfl,hI1,hE1⟩
 have B0:Blk w1 w.heap.size 42 #[.bool b,.slice A n c,.bool b',.slice A' n' c']:=((((Blk.new _ _ _).alloc _).alloc _)).ext hE1
 have B2:Blk w1 (w.heap.size+2) 42 #[.bool false,.slice none 0 0,.bool false,.slice none 0 0]:=((AW _ _ (by simp))).ext hE1
 have hs1:=hE1.size
 replace hE1:=Ac (((((Ext.refl _).alloc _).alloc _).alloc _).trans hE1)
 have hs:w.heap.size+3<=w1.heap.size:=by have:=hs1;simp at this;omega
 have hn1:w1.heap.size≠w.heap.size:=by omega
 have OB:Obj.cells #[.bool b1,.slice A1 n1 c1,.bool b2,.slice A2 n2 c2] 42=Obj.cells #[.bool b1,.slice A1 n1 c1,.bool b2,.slice A2 n2 c2] 42:=rfl
 replace B0:=B0.alloc (Obj.cells #[.bool b1,.slice A1 n1 c1,.bool b2,.slice A2 n2 c2] 42)
 replace B2:=B2.alloc (Obj.cells #[.bool b1,.slice A1 n1 c1,.bool b2,.slice A2 n2 c2] 42)
 have x0:(w1.alloc (Obj.cells #[.bool b1,.slice A1 n1 c1,.bool b2,.slice A2 n2 c2] 42)).cell? ⟨w.heap.size,0,none⟩=some (.bool b):=B0.cell 0
 have x1:(w1.alloc (Obj.cells #[.bool b1,.slice A1 n1 c1,.bool b2,.slice A2 n2 c2] 42)).cell? ⟨w.heap.size,1,none⟩=some (.slice A n c):=B0.cell 1
 have x2:(w1.alloc (Obj.cells #[.bool b1,.slice A1 n1 c1,.bool b2,.slice A2 n2 c2] 42)).cell? ⟨w.heap.size,2,none⟩=some (.bool b'):=B0.cell 2
 have x3:(w1.alloc (Obj.cells #[.bool b1,.slice A1 n1 c1,.bool b2,.slice A2 n2 c2] 42)).cell? ⟨w.heap.size,3,none⟩=some (.slice A' n' c'):=B0.cell 3
 clear OB
 replace hI1:=Ac (hI1.ext ((Ext.refl _).alloc (Obj.cells #[.bool b1,.slice A1 n1 c1,.bool b2,.slice A2 n2 c2] 42)))
 replace hE1:=Ac (hE1.out.trans ((Ext.refl _).alloc (Obj.cells #[.bool b1,.slice A1 n1 c1,.bool b2,.slice A2 n2 c2] 42)))
 replace B0:=Ac B0
 replace B2:=Ac B2
 replace hs:=Ac hs
 clear hs1
 go_wp2_with fail
 refine (PW _ _ _ _ _ _ _ _ _ _ _ _ _ _ _ _ _ _ N M _ (h.out.ext hE1.out) hI1.out hp.out (hq.out.inv h0.out) hN.out).mono ?_
 rintro e w2 ⟨b5,b6,A5,A6,n5,c5,n6,c6,rfl,hI5,hE5⟩
 have f5:=B2.out.ext hE5
 have y0:w2.cell? ⟨w.heap.size+2,0,none⟩=some (.bool false):=f5.cell 0
 have y1:w2.cell? ⟨w.heap.size+2,1,none⟩=some (.slice none 0 0):=f5.cell 1
 have y2:w2.cell? ⟨w.heap.size+2,2,none⟩=some (.bool false):=f5.cell 2
 have y3:w2.cell? ⟨w.heap.size+2,3,none⟩=some (.slice none 0 0):=f5.cell 3
 have y4:=f5.frozen 0
 have y5:=f5.frozen 1
 have y6:=f5.frozen 2
 have y7:=f5.frozen 3
 have t5:=Ac f5.ty
 replace hI5:=Ac hI5
 replace hE:=Ac (hE1.out.trans hE5)
 clear f5 hE5 x0 x1 x2 x3
 go_wp2
 refine bodyPost_ret (v:=.tuple #[.agg #[.bool b5,.slice A5 n5 c5,.bool b6,.slice A6 n6 c6],.int .i64 0]) (by simp [results,Tryz.results72,go_sem,y0,y1,y2,y3]) rfl ⟨_,_,_,_,_,_,_,_,rfl,?_,?_⟩
 .exact hI5.out.put4 (b:=w.heap.size+2) t5.out (by decide) (.bool b5) (.slice A5 n5 c5) (.bool b6) (.slice A6 n6 c6)
 .exact hE.out.put4 (b:=w.heap.size+2) (by omega) (.bool b5) (.slice A5 n5 c5) (.bool b6) (.slice A6 n6 c6)
end Go.Proofs.YtnbfnoebjjdmnaaGreat
