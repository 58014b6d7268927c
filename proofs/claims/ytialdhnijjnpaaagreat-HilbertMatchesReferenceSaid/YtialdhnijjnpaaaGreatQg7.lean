/- Part 7 of the proof of hilbertMatchesReference_holds. No condition. -/
import Derived.Deep.LoopGhost
import Derived.Test.YtialdhnijjnpaaaGreatQg5
import Derived.Test.YtialdhnijjnpaaaGreatQg6
set_option linter.unusedSimpArgs false
set_option linter.unusedVariables false
set_option maxRecDepth 100000
set_option maxHeartbeats 2000000
namespace Go.Proofs.YtialdhnijjnpaaaGreat
open Go.RowKit
theorem Hp:∀(f x:Nat),x<2^f->x<2^(Lib.bitLenAux f x)/\(x≠0->2^(Lib.bitLenAux f x)<=2*x)
 | 0,x,h=>by
  have:x=0:=by simpa using h
  subst this
  exact ⟨by simp [Lib.bitLenAux],λh=>absurd rfl h⟩
 | f+1,x,h=>by
  unfold Lib.bitLenAux
  by_cases hx:x=0
  .subst hx;exact ⟨by simp,λh=>absurd rfl h⟩
  .rw [if_neg hx]
   obtain ⟨h1,h2⟩:=Hp f (x/2) (by rw [Nat.pow_succ] at h;omega)
   have e:2^(1+Lib.bitLenAux f (x/2))=2*2^(Lib.bitLenAux f (x/2)):=by rw [Nat.pow_add]
   refine ⟨by rw [e];omega,λ_=>?_⟩
   rw [e]
   by_cases h0:x/2=0
   .have hx1:x=1:=by omega
    subst hx1
    have:Lib.bitLenAux f (1/2)=0:=by
     show Lib.bitLenAux f 0=0
     cases f<;>simp [Lib.bitLenAux]
    rw [this];omega
   .have:=h2 h0;omega
theorem WL{t:Nat}(h0:0<t)(h1:t<4294967296):∃s:Nat,(32:Int)-(Lib.bitLen t:Int)=s/\s<32/\2147483648<=t*2^s/\(t+1)*2^s<=4294967296:=by
 have hs:=Hp 64 t (by omega)
 have hb:Lib.bitLen t=Lib.bitLenAux 64 t:=rfl
 rw [<-hb] at hs
 generalize Lib.bitLen t=k at hs
 obtain ⟨h2,h3⟩:=hs
 have h3:=h3 (by omega)
 have hk32:k<=32:=by
  rcases Nat.lt_or_ge 32 k with h | h
  .have:2^33<=2^k:=Nat.pow_le_pow_right (by omega) h
   have e:(2:Nat)^33=8589934592:=by decide
   omega
  .exact h
 have hk1:1<=k:=by
  rcases Nat.eq_zero_or_pos k with h | h
  .subst h;simp at h2;omega
  .exact h
 refine ⟨32-k,by omega,by omega,?_,?_⟩
 .have h4:2^k*2^(32-k)=4294967296:=by rw [<-Nat.pow_add, show k+(32-k)=32 by omega]
  have h5:2^k*2^(32-k)<=2*t*2^(32-k):=Nat.mul_le_mul_right _ h3
  rw [h4,Nat.mul_assoc] at h5
  omega
 .have h4:2^k*2^(32-k)=4294967296:=by rw [<-Nat.pow_add, show k+(32-k)=32 by omega]
  have h5:(t+1)*2^(32-k)<=2^k*2^(32-k):=Nat.mul_le_mul_right _ h2
  omega
theorem Cz{y n:Nat}(h:(As y).length=n+1):0<(As y).getD n 0:=by
 induction n generalizing y with
 | zero=>
  have hy:y≠0:=by rintro rfl;rw [Bl] at h;simp at h
  rw [DU hy] at h ⊢
  have h0:(As (y/BB)).length=0:=by simpa using h
  have h1:=Bg.1 h0
  have h2:y<BB:=by
   rcases Nat.lt_or_ge y BB with h | h
   .exact h
   .have:=Nat.div_pos h BR;omega
  simp [Nat.mod_eq_of_lt h2];omega
 | succ n ih=>
  have hy:y≠0:=by rintro rfl;rw [Bl] at h;simp at h
  rw [DU hy] at h ⊢
  have:=ih (y:=y/BB) (by simpa using h)
  simpa using this
theorem PX{r:List Nat}{y n s t:Nat}(hl:(As y).length=n+1)(ht:(As y).getD n 0=t)(hr:r.length=n+2)(sr:Bh r)(hv:val r=2^s*y)(h1:2147483648<=t*2^s)(h2:(t+1)*2^s<=4294967296) :
  val (r.take (n+1))=2^s*y/\2147483648<=r.getD n 0:=by
 have ey:=CS hl
 rw [Aw,ht] at ey
 have hlow:val ((As y).take n)<BB^n:=by
  have:=CR (Co (BD y) n)
  rwa [List.length_take,Nat.min_eq_left (by omega)] at this
 have hub:2^s*y<BB^(n+1):=by
  have h3:y+1<=BB^n*(t+1):=by rw [Nat.mul_add];omega
  have h4:2^s*(y+1)<=2^s*(BB^n*(t+1)):=Nat.mul_le_mul_left _ h3
  have h5:2^s*(BB^n*(t+1))=BB^n*((t+1)*2^s):=by rw [Nat.mul_left_comm,Nat.mul_comm (2^s)]
  have h6:BB^n*((t+1)*2^s)<=BB^n*BB:=Nat.mul_le_mul_left _ (by rw [AT];exact h2)
  have h7:0<2^s:=Nat.two_pow_pos s
  rw [Nat.pow_succ]
  rw [Nat.mul_add] at h4
  omega
 have e1:=CS hr
 have h0:r.getD (n+1) 0=0:=by
  rcases Nat.eq_zero_or_pos (r.getD (n+1) 0) with h | h
  .exact h
  .exfalso
   have:BB^(n+1)*1<=BB^(n+1)*r.getD (n+1) 0:=Nat.mul_le_mul_left _ h
   omega
 rw [h0,Nat.mul_zero,Nat.add_zero] at e1
 refine ⟨by rw [<-e1,hv],?_⟩
 have e2:=AJ r n
 rw [<-e1,hv] at e2
 have h3:BB^n*t<=y:=by omega
 have h4:2^s*(BB^n*t)<=2^s*y:=Nat.mul_le_mul_left _ h3
 have h5:2^s*(BB^n*t)=BB^n*(t*2^s):=by rw [Nat.mul_left_comm,Nat.mul_comm (2^s)]
 have h6:BB^n*2147483648<=BB^n*(t*2^s):=Nat.mul_le_mul_left _ h1
 have h7:val (r.take n)<BB^n:=by
  have:=CR (Co sr n)
  rwa [List.length_take,Nat.min_eq_left (by omega)] at this
 have h8:BB^n*2147483648<BB^n*(r.getD n 0+1):=by rw [Nat.mul_add];omega
 have:=Nat.lt_of_mul_lt_mul_left h8
 omega
def DivRel(w wr:World)(gu gv gq:Nat)(ul vl U Q:List Nat)(m n k:Nat):Prop:=
 U.length=m+1/\Bh U/\Blk wr gu 136 (wv U)/\Q.length=m-n+1/\Bh Q/\Blk wr gq 136 (wv Q)/\Blk wr gv 136 (wv vl) /\
 val (ul.drop k)=val (Q.drop k)*val (vl.take n)+val (U.drop k)/\U.take k=ul.take k/\val (U.drop k)<val (vl.take n)/\Ext w wr
theorem Fv(U:List Nat)(k j:Nat)(h:k+j<=U.length):val (U.drop k)=val ((U.drop k).take j)+BB^j*val (U.drop (k+j)):=by
 have h1:U.drop k=(U.drop k).take j++(U.drop k).drop j:=(List.take_append_drop j _).symm
 rw [List.drop_drop] at h1
 have h2:((U.drop k).take j).length=j:=by simp;omega
 calc val (U.drop k) = val ((U.drop k).take j ++ U.drop (k + j)) := by rw [← h1]
  _=_:=by rw [Fw,h2]
theorem DivRel.window{w wr:World}{gu gv gq:Nat}{ul vl U Q:List Nat}{m n k:Nat}(h:DivRel w wr gu gv gq ul vl U Q m n (k+1))(hk:k+n<=m)(hn:2<=n)(hvl:n<=vl.length)(sv:Bh vl) :
  ∃x post,x.length=n+1/\Bh x/\Win wr gu (U.take k) x post/\val x<BB*val (vl.take n)/\val post=0/\U=U.take k++x++post/\val x=U.getD k 0+BB*val (U.drop (k+1))/\(U.take k).length=k:=by
 obtain ⟨h1,h2,h3,h4,h5,h6,h7,h8,h9,h10,h11⟩:=h
 have hsplit:U=U.take k++(U.drop k).take (n+1)++U.drop (k+(n+1)):=by
  rw [List.append_assoc,<-List.drop_drop,List.take_append_drop,List.take_append_drop]
 have hVB:val (vl.take n)<BB^n:=by
  have:=CR (Co sv n)
  rwa [List.length_take,Nat.min_eq_left hvl] at this
 have e1:=CO (l:=U) (k:=k) (by omega)
 have e2:=Fv U k (n+1) (by omega)
 have hUk:=AF h2 k
 have hub:val (U.drop k)<BB*val (vl.take n):=by
  have:BB*(val (U.drop (k+1))+1)<=BB*val (vl.take n):=Nat.mul_le_mul_left _ h10
  rw [Nat.mul_add] at this
  omega
 have hp0:val (U.drop (k+(n+1)))=0:=by
  rcases Nat.eq_zero_or_pos (val (U.drop (k+(n+1)))) with h | h
  .exact h
  .exfalso
   have h12:BB^(n+1)*1<=BB^(n+1)*val (U.drop (k+(n+1))):=Nat.mul_le_mul_left _ h
   have h13:BB*val (vl.take n)<=BB*BB^n:=Nat.mul_le_mul_left _ (Nat.le_of_lt hVB)
   have h14:BB^(n+1)=BB*BB^n:=by rw [Nat.pow_succ,Nat.mul_comm]
   omega
 rw [hp0,Nat.mul_zero,Nat.add_zero] at e2
 refine ⟨(U.drop k).take (n+1),U.drop (k+(n+1)),by simp;omega,Co (Lp h2 k) _,?_,by rw [<-e2];exact hub,hp0,hsplit,by rw [<-e2];exact e1,by simp;omega⟩
 unfold Win
 rw [<-hsplit]
 exact h3
theorem EQ{a b:List Nat}(h:val b=0):val (a++b)=val a:=by rw [Fw,h,Nat.mul_zero,Nat.add_zero]
theorem DivRel.step{w wr w1:World}{gu gv gq:Nat}{ul vl U Q x x' post:List Nat}{m n k q:Nat}(h:DivRel w wr gu gv gq ul vl U Q m n (k+1))(hk:k+n<=m)(hul:ul.length=m+1)(hx:x.length=n+1)(hU:U=U.take k++x++post)(hpl:(U.take k).length=k)(hp0:val post=0)(hxv:val x=U.getD k 0+BB*val (U.drop (k+1)))
  (hx':x'.length=n+1) (sx':Bh x') (hW:Win w1 gu (U.take k) x' post) (hO:Only gu wr w1) (hq:q<BB) (Gg:val x'+q*val (vl.take n)=val x) (hlt:val x'<val (vl.take n)) (hgu:w.heap.size<=gu) (hgq:gq≠gu) (hgv:gv≠gu) (hqv:gv≠gq) (hgqw:w.heap.size<=gq) {e:Int} (he:e=(q:Nat)) :
  DivRel w (w1.setCell ⟨gq,k,none⟩ (.int .u32 e)) gu gv gq ul vl (U.take k++x'++post) (Q.set k q) m n k:=by
 obtain ⟨h1,h2,h3,h4,h5,h6,h7,h8,h9,h10,h11⟩:=h
 have sU:Bh (U.take k):=Co h2 k
 have sp:Bh post:=λy hy=>h2 y (by rw [hU];simp [hy])
 have hk1:k<U.length:=by omega
 have hql:Blk w1 gq 136 (wv Q):=(hO.block gq (Blk.lt h6) hgq).trans h6
 have hvl1:Blk w1 gv 136 (wv vl):=(hO.block gv (Blk.lt h7) hgv).trans h7
 have hd:(U.take k++x'++post).drop k=x'++post:=by
  rw [List.append_assoc,List.drop_append,List.drop_eq_nil_of_le (by omega),hpl,Nat.sub_self];rfl
 have ht:(U.take k++x'++post).take k=U.take k:=by
  rw [List.append_assoc,List.take_append,hpl,Nat.sub_self,List.take_of_length_le (by omega)];simp
 have hul':ul.take k=U.take k:=by
  have:(U.take (k+1)).take k=(ul.take (k+1)).take k:=by rw [h9]
  rw [List.take_take,List.take_take,Nat.min_eq_left (by omega)] at this
  exact this.symm
 have huk:ul.getD k 0=U.getD k 0:=by
  have:(U.take (k+1)).getD k 0=(ul.take (k+1)).getD k 0:=by rw [h9]
  simp only [List.getD_eq_getElem?_getD,List.getElem?_take] at this
  simpa using this.symm
 refine ⟨?_,?_,?_,by simpa using h4,Cd h5 k hq,?_,?_,?_,?_,?_,?_⟩
 .have e1:(U.take k++x++post).length=m+1:=by rw [<-hU]; exact h1
  simp only [List.length_append] at e1 ⊢
  omega
 .intro y hy
  rcases List.mem_append.1 hy with hy | hy
  .rcases List.mem_append.1 hy with hy | hy
   .exact sU y hy
   .exact sx' y hy
  .exact sp y hy
 .exact Blk.far hW (by exact λe=>hgq e.symm) _
 .rw [he,<-Fb];exact hql.set k _
 .exact hvl1.far (by exact hqv) _
 .rw [hd, EQ hp0, CO (l:=ul) (by omega), CO (l:=Q.set k q) (by rw [List.length_set]; omega), Hj, Bu (by omega), h8, huk]
  have:BB*(val (Q.drop (k+1))*val (vl.take n)+val (U.drop (k+1)))=BB*val (Q.drop (k+1))*val (vl.take n)+BB*val (U.drop (k+1)):=by rw [Nat.mul_add,Nat.mul_assoc]
  rw [this,Nat.add_mul]
  omega
 .rw [ht,hul']
 .rw [hd,EQ hp0];exact hlt
 .refine Ext.set ?_ hgqw _
  exact ⟨hO.os.trans h11.os,hO.tape.trans h11.tape,hO.output.trans h11.output,Nat.le_trans h11.size hO.size,λi hi=>(hO.block i (Nat.lt_of_lt_of_le hi h11.size) (by omega)).trans (h11.block hi)⟩
theorem WX{ul vl:List Nat}{x y m n s:Nat}(hx:(As x).length=m)(hy:(As y).length=n+1)(hle:n+1<=m)(hul:ul.length=m+1)(hu:val ul=2^s*x)(hv:val (vl.take (n+1))=2^s*y):val (ul.drop (m-(n+1)+1))<val (vl.take (n+1)):=by
 have h1:x<BB^m:=by have:=CR (BD x);rwa [Aw,hx] at this
 have h2:BB^n<=y:=by
  have e:=CS hy
  rw [Aw] at e
  have:=Cz hy
  have h3:BB^n*1<=BB^n*(As y).getD n 0:=Nat.mul_le_mul_left _ this
  omega
 have e1:m-(n+1)+1=m-n:=by omega
 rw [e1,hv]
 have h3:val ul=val (ul.take (m-n))+BB^(m-n)*val (ul.drop (m-n)):=by
  have:=Fw (ul.take (m-n)) (ul.drop (m-n))
  rw [List.take_append_drop,List.length_take,Nat.min_eq_left (by omega)] at this
  exact this
 have hs:=Nat.two_pow_pos s
 have h4:2^s*x<2^s*BB^m:=Nat.mul_lt_mul_of_pos_left h1 hs
 have h5:2^s*BB^m=BB^(m-n)*(2^s*BB^n):=by
  rw [Nat.mul_left_comm,<-Nat.pow_add,show m-n+n=m by omega]
 have h6:BB^(m-n)*val (ul.drop (m-n))<BB^(m-n)*(2^s*BB^n):=by omega
 have h7:=Nat.lt_of_mul_lt_mul_left h6
 have h8:2^s*BB^n<=2^s*y:=Nat.mul_le_mul_left _ h2
 omega
theorem WY{a b s q r:Nat}(hb:0<b)(h:2^s*a=q*(2^s*b)+r)(hr:r<2^s*b):a/b=q/\r/2^s=a%b:=by
 have hs:0<2^s:=Nat.two_pow_pos s
 have h1:(2^s*a)/(2^s*b)=q:=by
  rw [h,Nat.mul_comm q,Nat.mul_add_div (Nat.mul_pos hs hb),Nat.div_eq_of_lt hr,Nat.add_zero]
 have h2:(2^s*a)%(2^s*b)=r:=by
  rw [h,Nat.mul_comm q,Nat.mul_add_mod,Nat.mod_eq_of_lt hr]
 rw [Nat.mul_div_mul_left _ _ hs] at h1
 rw [Nat.mul_mod_mul_left] at h2
 refine ⟨h1,?_⟩
 rw [<-h2,Nat.mul_div_cancel_left _ hs]
def Hr(x y:Nat)(w:World)(e:Ending)(w':World):Prop:=
 ∃(A A':Option Addr) (n c n' c':Nat),e = .returned (.tuple #[.slice A n c,.slice A' n' c'])/\Words w' (.slice A n c) (As (x/y))/\Words w' (.slice A' n' c') (As (x%y))/\Ext w w'
theorem Words.form{w:World}{v:Value}{l:List Nat}(h:Words w v l):∃A n c,v = .slice A n c:=by
 obtain ⟨A,c,rfl,_⟩:=h
 exact ⟨A,_,c,rfl⟩
theorem WW(va vb:Value)(la lb:List Nat)(w:World)(ha:Words w va la)(hb:Words w vb lb)(hn:la.length<=4398046511104)(hlt:val la<val lb) :
  Calls Tryz.prog 158 #[va,vb] w (Hr (val la) (val lb) w):=by
 have hsa:=Ae ha.small
 have hsb:=Ae hb.small
 replace ha:=Ae ha
 replace hb:=Ae hb
 have hcmp:DK (val la) (val lb)<0:=by unfold DK;rw [if_pos hlt];omega
 have hlen:Hid ((As (val la)).length<=35184372088832):=by
  have h1:(Dd la).length<=la.length:=Ff la
  rw [AO hsa.out] at h1
  show _<=_
  omega
 replace hn:=Ae hn
 replace hlt:=Ae hlt
 go_enter Tryz.func158,Tryz.ntmps158
 go_wp2_with fail
 refine (Cu _ _ _ ha.out).mono ?_
 rintro e w1 ⟨v1,rfl,hW1,hE1⟩
 rw [AO hsa.out] at hW1
 replace hW1:=Ae hW1
 replace hE1:=Ae hE1
 go_wp2_with fail
 refine (Cu _ _ _ (hb.out.ext hE1.out)).mono ?_
 rintro e w2 ⟨v2,rfl,hW2,hE2⟩
 rw [AO hsb.out] at hW2
 replace hW1:=Ae (hW1.out.ext hE2)
 replace hE2:=Ae (hE1.out.trans hE2)
 replace hW2:=Ae hW2
 go_wp2_with fail
 refine (Ey _ _ _ _ _ hW1.out hW2.out).mono ?_
 rintro e w3 ⟨rfl,hE3⟩
 replace hW1:=Ae (hW1.out.ext hE3)
 replace hE3:=Ae (hE2.out.trans hE3)
 go_wp2_with fail
 refine (HG _ _ _ hW1.out hlen.out).mono ?_
 rintro e w4 ⟨v4,rfl,hW4,hE4⟩
 obtain ⟨A4,n4,c4,rfl⟩:=hW4.form
 replace hW4:=Ae hW4
 replace hE4:=Ae (hE3.out.trans hE4)
 go_wp2
 go_ret2
 refine ⟨_,_,_,_,_,_,rfl,?_,?_,hE4.out⟩
 .rw [Nat.div_eq_of_lt hlt.out,Bl];exact Words.nil _ _ _ (by omega)
 .rw [Nat.mod_eq_of_lt hlt.out];exact hW4.out
theorem Tf(va vb:Value)(la lb:List Nat)(w:World)(ha:Words w va la)(hb:Words w vb lb)(hn:la.length<=4398046511104)(hge:val lb<=val la)(h1:(As (val lb)).length=1) :
  Calls Tryz.prog 158 #[va,vb] w (Hr (val la) (val lb) w):=by
 have hsa:=Ae ha.small
 have hsb:=Ae hb.small
 replace ha:=Ae ha
 replace hb:=Ae hb
 have hcmp:¬DK (val la) (val lb)<0:=by unfold DK;rw [if_neg (by omega)];split<;>omega
 have hlen:Hid ((As (val la)).length<=4398046511104):=by
  have h1:(Dd la).length<=la.length:=Ff la
  rw [AO hsa.out] at h1
  show _<=_
  omega
 obtain ⟨t,ht⟩:∃t,As (val lb)=[t]:=by
  match hd:As (val lb),h1 with
  | [t],_=>exact ⟨t,rfl⟩
 have htv:Hid (val lb=t):=by
  show val lb=t
  rw [<-Aw (val lb),ht];simp [val]
 have htB:t<4294967296:=by
  have:=BD (val lb) t (by rw [ht];simp)
  rwa [AT] at this
 have ht0:0<t:=by
  have:=Cz (y:=val lb) (n:=0) h1
  rw [ht] at this
  simpa using this
 replace hn:=Ae hn
 replace hge:=Ae hge
 clear h1
 replace ht:=Ae ht
 go_enter Tryz.func158,Tryz.ntmps158
 go_wp2_with fail
 refine (Cu _ _ _ ha.out).mono ?_
 rintro e w1 ⟨v1,rfl,hW1,hE1⟩
 rw [AO hsa.out] at hW1
 replace hW1:=Ae hW1
 replace hE1:=Ae hE1
 go_wp2_with fail
 refine (Cu _ _ _ (hb.out.ext hE1.out)).mono ?_
 rintro e w2 ⟨v2,rfl,hW2,hE2⟩
 rw [AO hsb.out] at hW2
 replace hW1:=Ae (hW1.out.ext hE2)
 replace hE2:=Ae (hE1.out.trans hE2)
 replace hW2:=Ae hW2
 go_wp2_with fail
 refine (Ey _ _ _ _ _ hW1.out hW2.out).mono ?_
 rintro e w3 ⟨rfl,hE3⟩
 replace hW1:=Ae (hW1.out.ext hE3)
 replace hW2:=hW2.out.ext hE3
 replace hE3:=Ae (hE2.out.trans hE3)
 rw [ht.out] at hW2
 obtain ⟨A2,c2,rfl,hc2,hm2,hx2⟩:=hW2.open_
 obtain ⟨b2,o2,rfl,hb2,hcell2⟩:=hx2 (by simp)
 replace hcell2:w3.cell? ⟨b2,o2,none⟩=some (.int .u32 (t:Nat)):=hcell2 0 (by simp)
 clear hx2 hW2
 go_wp2_with fail
 refine (KE _ _ t _ hW1.out hlen.out ht0 htB).mono ?_
 rintro e w4 ⟨v4,rfl,hW4,hE4⟩
 obtain ⟨A4,n4,c4,rfl⟩:=hW4.form
 replace hW4:=Ae hW4
 replace hE4:=Ae (hE3.out.trans hE4)
 have hrB:val (As (val la))%t<18446744073709551616:=by have:=Nat.mod_lt (val (As (val la))) ht0;omega
 replace hrB:=Ae hrB
 clear hcell2
 go_wp2_with fail
 refine (JH _ _ hrB.out).mono ?_
 rintro e w5 ⟨v5,rfl,hW5,hE5⟩
 obtain ⟨A5,n5,c5,rfl⟩:=hW5.form
 replace hW4:=Ae (hW4.out.ext hE5)
 replace hW5:=Ae hW5
 replace hE5:=Ae (hE4.out.trans hE5)
 go_wp2
 go_ret2
 refine ⟨_,_,_,_,_,_,rfl,?_,?_,hE5.out⟩
 .have:=hW4.out;rw [Aw] at this;rw [htv.out];exact this
 .have:=hW5.out;rw [Aw] at this;rw [htv.out];exact this
theorem KB(b bv n cu cv k:Nat)(pre post u v:List Nat)(w:World)(hk:pre.length=k)(hW:Win w b pre u post)(hu:u.length=n+1)(hv:n<=v.length)(hn2:2<=n)(hn:n<=4398046511104)(su:Bh u)(sv:Bh v)(hbv:bv≠b)
  (hvb:Blk w bv 136 (wv v)) (hcu:n+1<=cu) (hcv:n<=cv) (htop:2147483648<=v.getD (n-1) 0) (hlt:val u<BB*val (v.take n)) :
  Calls Tryz.prog 182 #[.slice (some ⟨b,k,none⟩) (n+1) cu,.slice (some ⟨bv,0,none⟩) n cv] w (A0s w b pre post u (v.take n)):=by
 subst hk
 refine JM b bv 0 n cu cv pre post u (v.take n) w hW hu (by simp;omega) hn2 hn su (Co sv n) hbv (λi hi=>?_) hcu hcv ?_ hlt
 .rw [Nat.zero_add, hvb.cell, Cm (by omega)]
  simp [hi]
 .simp only [List.getD_eq_getElem?_getD,List.getElem?_take] at htop ⊢
  rw [if_pos (by omega)]
  exact htop
set_option maxRecDepth 1000000 in
theorem Tg(va vb:Value)(la lb:List Nat)(w:World)(ha:Words w va la)(hb:Words w vb lb)(hn:la.length<=4398046511104)(hge:val lb<=val la)(h2:2<=(As (val lb)).length) :
  Calls Tryz.prog 158 #[va,vb] w (Hr (val la) (val lb) w):=by
 have hsa:=Ae ha.small
 have hsb:=Ae hb.small
 replace ha:=Ae ha
 replace hb:=Ae hb
 have hcmp:¬DK (val la) (val lb)<0:=by unfold DK;rw [if_neg (by omega)];split<;>omega
 have hlen:(As (val la)).length<=4398046511104:=by
  have h1:(Dd la).length<=la.length:=Ff la
  rw [AO hsa.out] at h1
  omega
 have hle:=BM hge
 obtain ⟨n,hn1⟩:∃n,(As (val lb)).length=n+1:=⟨(As (val lb)).length-1,by omega⟩
 obtain ⟨m,hm1⟩:∃m,(As (val la)).length=m:=⟨_,rfl⟩
 have ht0:=Cz hn1
 have htB:=AF (BD (val lb)) n
 generalize ht:(As (val lb)).getD n 0=t at *
 unfold BB at htB
 obtain ⟨s,hs1,hs,hs2,hs3⟩:=WL ht0 htB
 rw [hm1] at hlen hle
 rw [hn1] at hle h2
 have hn2:1<=n:=by omega
 clear h2 hn
 replace ht:=Ae ht
 replace hn1:=Ae hn1
 replace hm1:=Ae hm1
 replace hge:=Ae hge
 replace hs2:=Ae hs2
 replace hs3:=Ae hs3
 replace hs1:=Ae hs1
 have hmk:=λW=>Bp (m-(n+1)+1) (by omega) .i64 .i64 W
 have hsub:((m-(n+1)+1:Nat):Int)=(m:Int)-((n:Int)+1)+1:=by omega
 rw [hsub] at hmk
 clear hsub
 go_enter Tryz.func158,Tryz.ntmps158
 go_wp2_with fail
 refine (Cu _ _ _ ha.out).mono ?_
 rintro e w1 ⟨v1,rfl,hW1,hE1⟩
 rw [AO hsa.out] at hW1
 replace hW1:=Ae hW1
 replace hE1:=Ae hE1
 go_wp2_with fail
 refine (Cu _ _ _ (hb.out.ext hE1.out)).mono ?_
 rintro e w2 ⟨v2,rfl,hW2,hE2⟩
 rw [AO hsb.out] at hW2
 replace hW1:=Ae (hW1.out.ext hE2)
 replace hE2:=Ae (hE1.out.trans hE2)
 replace hW2:=Ae hW2
 go_wp2_with fail
 refine (Ey _ _ _ _ _ hW1.out hW2.out).mono ?_
 rintro e w3 ⟨rfl,hE3⟩
 replace hW1:=hW1.out.ext hE3
 replace hW2:=hW2.out.ext hE3
 replace hE3:=Ae (hE2.out.trans hE3)
 obtain ⟨A1,c1,rfl,hc1,hm1',hx1⟩:=hW1.open_
 clear hx1
 obtain ⟨A2,c2,rfl,hc2,hm2,hx2⟩:=hW2.open_
 obtain ⟨b2,o2,rfl,hb2,hcell2⟩:=hx2 (by rw [hn1.out];omega)
 replace hcell2:w3.cell? ⟨b2,o2+n,none⟩=some (.int .u32 (t:Nat)):=by have:=hcell2 n (by rw [hn1.out];omega);rw [ht.out] at this;exact this
 clear hx2
 rw [hn1.out] at hc2 ⊢
 rw [hm1.out] at hc1 ⊢
 replace hW1:=Ae hW1
 replace hW2:=Ae hW2
 have hne1:(((n+1:Nat):Int)==1)=false:=by simp;omega
 go_wp2_with fail
 refine (Go.Proofs.Tryz.bits_LeadingZeros32 _ _ (by omega) (by omega)).mono ?_
 rintro e w3 ⟨rfl,rfl⟩
 rw [Int.toNat_natCast,hs1.out]
 have hW1':Hid (Words w3 (.slice A1 m c1) (As (val la))):=by have:=hW1.out;rw [hm1.out] at this;exact this
 have hW2':Hid (Words w3 (.slice (some ⟨b2,o2,none⟩) (n+1) c2) (As (val lb))):=by have:=hW2.out;rw [hn1.out] at this;exact this
 clear hW1 hW2 hcell2
 go_wp2_with fail
 refine (HZ _ _ s _ hW1'.out (by rw [hm1.out];exact hlen) hs).mono ?_
 rintro e w4 ⟨gu,ul,rfl,hul,sul,hgu,hBu,hvu,hE4⟩
 rw [hm1.out] at hul ⊢
 have hW2:=Ae (hW2'.out.ext hE4)
 clear hW1' hW2'
 go_wp2_with fail
 refine (HZ _ _ s _ hW2.out (by rw [hn1.out];omega) hs).mono ?_
 rintro e w5 ⟨gv,vl,rfl,hvl,svl,hgv,hBv,hvv,hE5⟩
 have hguv:gv≠gu:=by have:=Blk.lt hBu;omega
 rw [hn1.out] at hvl ⊢
 clear hW2
 rw [Aw] at hvu hvv
 have hst:=Ae (PX hn1.out ht.out hvl svl hvv hs2.out hs3.out)
 replace hBu:=hBu.ext hE5
 replace hE5:=hE3.out.trans (hE4.trans hE5)
 replace hul:=Ae hul
 replace hvl:=Ae hvl
 replace sul:=Ae sul
 replace svl:=Ae svl
 replace hvu:=Ae hvu
 replace hvv:=Ae hvv
 replace hBu:=Ae hBu
 replace hBv:=Ae hBv
 replace hE5:=Ae hE5
 have hgu5:=Blk.lt hBu.out
 have hgv5:=Blk.lt hBv.out
 have hguw:w.heap.size<=gu:=Nat.le_trans hE3.out.size hgu
 have hszw:=hE5.out.size
 replace hguw:=Ae hguw
 replace hszw:=Ae hszw
 clear hE4 hgu hgv
 go_wp2
 go_loopw [13] (λi wr=>∃(k:Nat) (U Q:List Nat),k<=m-(n+1)+1/\i = .int .i64 ((k:Int)-1)/\Hid (DivRel w wr gu gv w5.heap.size ul vl U Q m (n+1) k)) (λi _=>(intOf i+1).toNat)
 case atStart=>
  refine ⟨m-(n+1)+1,ul,List.replicate (m-(n+1)+1) 0,Nat.le_refl _,by congr 1;omega,hul.out,sul.out,hBu.out.alloc _,by simp,Bj _,Blk.new _ _ _,hBv.out.alloc _,?_,rfl,?_,hE5.out.alloc _⟩
  .have:(List.replicate (m-(n+1)+1) 0).drop (m-(n+1)+1)=[]:=List.drop_eq_nil_of_le (by simp)
   rw [this];simp [val]
  .exact WX hm1.out hn1.out hle hul.out hvu.out hst.out.1
 case round=>
  obtain ⟨k,U,Q,hk,rfl,hR⟩:=hrel
  by_cases hk0:k=0
  .subst hk0
   have hWq:Hid (Words wr (.slice (some ⟨w5.heap.size,0,none⟩) (m-(n+1)+1) (m-(n+1)+1)) Q):=by
    have:=Bz (c:=m-(n+1)+1) hR.out.2.2.2.2.2.1 hR.out.2.2.2.2.1 (by rw [hR.out.2.2.2.1];omega) (by omega)
    rw [hR.out.2.2.2.1] at this
    exact this
   have hUn:Hid ((U.take (n+1)).length=n+1):=by show _=_;rw [List.length_take,hR.out.1];omega
   have hWu:Hid (Words wr (.slice (some ⟨gu,0,none⟩) (n+1) (m+1)) (U.take (n+1))):=by
    have:=Bz (c:=m+1) hR.out.2.2.1 hR.out.2.1 (by rw [hR.out.1];omega) (by omega)
    have:=this.take (k:=n+1) (by rw [hR.out.1];omega)
    exact this
   have hfin:Hid (val la/val lb=val Q/\val (U.take (n+1))/2^s=val la%val lb):=by
    have h1:=hR.out.2.2.2.2.2.2.2.1
    have h2:=hR.out.2.2.2.2.2.2.2.2.2.1
    simp only [List.drop_zero] at h1 h2
    rw [hvu.out,hst.out.1] at h1
    rw [hst.out.1] at h2
    have hb0:0<val lb:=by
     rcases Nat.eq_zero_or_pos (val lb) with h | h
     .have:=hn1.out;rw [h,Bl] at this;simp at this
     .exact h
    have hUt:val (U.take (n+1))=val U:=by
     have e:=Fv U 0 (n+1) (by rw [hR.out.1];omega)
     simp only [List.drop_zero,Nat.zero_add] at e
     have hVB:2^s*val lb<BB^(n+1):=by
      rw [<-hst.out.1]
      have:=CR (Co svl.out (n+1))
      rwa [List.length_take,hvl.out,Nat.min_eq_left (by omega)] at this
     rcases Nat.eq_zero_or_pos (val (U.drop (n+1))) with h | h
     .rw [h,Nat.mul_zero,Nat.add_zero] at e;exact e.symm
     .exfalso
      have:BB^(n+1)*1<=BB^(n+1)*val (U.drop (n+1)):=Nat.mul_le_mul_left _ h
      omega
    rw [hUt]
    exact WY hb0 h1 h2
   go_wp2
   refine wp_region_v (by kernel_rfl) [[], [(81, 0)], [], [], [(83, 2), (84, 3)], [], [(85, 4), (86, 5)]] [[], [0], [], [], [2, 3], [], [0, 1, 2, 3, 4, 5]]
    [λv _=>v = .slice (some ⟨w5.heap.size,0,none⟩) (m-(n+1)+1) (m-(n+1)+1),λv w'=>∃A n c,v = .slice A n c/\Words w' (.slice A n c) (As (val la/val lb)),λv _=>v = .slice (some ⟨gu,0,none⟩) (m+1) (m+1),λv _=>v = .int .i64 ((n:Int)+1),λv _=>v = .slice (some ⟨gu,0,none⟩) (n+1) (m+1),λv _=>v = .int .i64 (s:Int),λv w'=>∃A n c,v = .slice A n c/\Words w' (.slice A n c) (As (val la%val lb))]
    rfl (by kernel_rfl) (by kernel_rfl) ?stab ?steps ?fin
   case stab=>exact .cons (Stab.eq _) (.cons (λ_ _ _ he ⟨A,n,c,h1,h2⟩=>⟨A,n,c,h1,h2.ext he⟩) (.cons (Stab.eq _) (.cons (Stab.eq _) (.cons (Stab.eq _) (.cons (Stab.eq _) (.cons (λ_ _ _ he ⟨A,n,c,h1,h2⟩=>⟨A,n,c,h1,h2.ext he⟩) .nil))))))
   case steps=>
    refine .cons ?s0 (.cons ?s1 (.cons ?s2 (.cons ?s3 (.cons ?s4 (.cons ?s5 (.cons ?s6 .nil))))))
    case s0=>
     intro w' ev hE hk ha hc hf
     have e12:ev (.tmp 12) = .slice (some ⟨w5.heap.size,0,none⟩) (m-(n+1)+1) (m-(n+1)+1):=ha 12 (by decide)
     exact Ao (by simp [execOp,e12,go_sem]) rfl
    case s1=>
     intro w' ev hE hk ha hc hf
     have e81:ev (.tmp 81) = .slice (some ⟨w5.heap.size,0,none⟩) (m-(n+1)+1) (m-(n+1)+1):=hk.1 _ rfl
     refine Bf (by simp [execOp,resolve,invoke,hf,e81,go_sem]) (Cu _ _ _ (hWq.out.ext ((Ext.refl _).drew.trans hE))) ?_
     rintro e w1 ⟨v1,rfl,hW1,hE1⟩
     obtain ⟨A1,n1,c1,rfl⟩:=hW1.form
     exact ⟨_,rfl,hE1,_,_,_,rfl,by rw [AO hR.out.2.2.2.2.1,<-hfin.out.1] at hW1;exact hW1⟩
    case s2=>
     intro w' ev hE hk ha hc hf
     have e10:ev (.tmp 10) = .slice (some ⟨gu,0,none⟩) (m+1) (m+1):=ha 10 (by decide)
     exact Ao (by simp [execOp,e10,go_sem]) rfl
    case s3=>
     intro w' ev hE hk ha hc hf
     have e8:ev (.tmp 8) = .int .i64 ((n:Int)+1):=ha 8 (by decide)
     exact Ao (by simp [execOp,e8,go_sem]) rfl
    case s4=>
     intro w' ev hE hk ha hc hf
     have e83:ev (.tmp 83) = .slice (some ⟨gu,0,none⟩) (m+1) (m+1):=hk.1 _ rfl
     have e84:ev (.tmp 84) = .int .i64 ((n:Int)+1):=hk.2.1 _ rfl
     have hsl1:(n:Int)+1<=(m:Int)+1:=by omega
     have hsl2:(0:Int)<=(n:Int)+1:=by omega
     exact Ao (by simp [execOp,e83,e84,hsl1,hsl2,go_sem]) rfl
    case s5=>
     intro w' ev hE hk ha hc hf
     have e9:ev (.tmp 9) = .int .i64 (s:Int):=ha 9 (by decide)
     exact Ao (by simp [execOp,e9,go_sem]) rfl
    case s6=>
     intro w' ev hE hk ha hc hf
     have e85:ev (.tmp 85) = .slice (some ⟨gu,0,none⟩) (n+1) (m+1):=hk.1 _ rfl
     have e86:ev (.tmp 86) = .int .i64 (s:Int):=hk.2.1 _ rfl
     refine Bf (by simp [execOp,resolve,invoke,hf,e85,e86,go_sem]) (Lq _ _ s _ (hWu.out.ext ((Ext.refl _).drew.trans hE)) (by rw [hUn.out];omega) hs) ?_
     rintro e w1 ⟨v1,rfl,hW1,hE1⟩
     obtain ⟨A1,n1,c1,rfl⟩:=hW1.form
     exact ⟨_,rfl,hE1,_,_,_,rfl,by rw [hfin.out.2] at hW1;exact hW1⟩
   case fin=>
    intro g w' hE hF
    obtain ⟨A1',n1',c1',e1,hq1⟩:=hF 1 _ rfl
    obtain ⟨A2',n2',c2',e2,hq2⟩:=hF 6 _ rfl
    simp only [List.length_cons,List.length_nil,Nat.reduceAdd,List.drop_succ_cons,List.drop_zero,List.take_succ_cons,List.take_zero,Eg,Act.put,List.setIfInBounds_toArray,List.set_cons_succ,List.set_cons_zero,e1,e2]
    clear hF e1 e2
    replace hq1:=Ae hq1
    replace hq2:=Ae hq2
    replace hE:=Ae (hR.out.2.2.2.2.2.2.2.2.2.2.trans ((Ext.refl _).drew.trans hE))
    go_wp2
    go_ret2
    exact ⟨_,_,_,_,_,_,rfl,hq1.out,hq2.out,hE.out⟩
  .obtain ⟨k, rfl⟩:∃q, k=q+1:=⟨k-1, by omega⟩
   have hq1:((k+1:Nat):Int)-1=k:=by omega
   rw [hq1]
   obtain ⟨x,post,hx1,hx2,hx3,hx4,hx5,hx6,hx7,hx8⟩:=hR.out.window (by omega) (by omega) (by rw [hvl.out];omega) svl.out
   replace hx1:=Ae hx1
   replace hx2:=Ae hx2
   replace hx3:=Ae hx3
   replace hx4:=Ae hx4
   replace hx5:=Ae hx5
   replace hx6:=Ae hx6
   replace hx7:=Ae hx7
   replace hx8:=Ae hx8
   go_wp2_with fail
   rw [show k+(n+1)+1-k=n+1+1 by omega]
   refine (KB gu gv (n+1) _ _ k (U.take k) post x vl wr hx8.out hx3.out hx1.out (by rw [hvl.out];omega) (by omega) (by omega) hx2.out svl.out hguv hR.out.2.2.2.2.2.2.1 (by omega) (by omega) hst.out.2 hx4.out).mono ?_
   rintro e w6 ⟨q,x',rfl,hq,hx',sx',hW',hO,Gg,hlt'⟩
   rw [hx1.out] at hx'
   have hqB:q<4294967296:=by rwa [AT] at hq
   have hBq:Blk w6 w5.heap.size 136 (wv Q):=(hO.block _ (Blk.lt hR.out.2.2.2.2.2.1) (by omega)).trans hR.out.2.2.2.2.2.1
   have hstc:w6.cell? ⟨w5.heap.size,k,none⟩=some (.int .u32 (Q.getD k 0:Nat)):=by rw [hBq.cell,Cm (by rw [hR.out.2.2.2.1];omega)]
   have hfz:=hBq.frozen k
   have hstep:=hR.out.step (by omega) hul.out hx1.out hx6.out hx8.out hx5.out hx7.out hx' sx' hW' hO hq Gg hlt' hguw.out (by omega) hguv (by omega) hszw.out (e:=(q:Nat)) rfl
   replace hstep:=Ae hstep
   clear hx' sx' hW' hO Gg hlt' hBq hq
   go_wp2
   exact ⟨⟨k,_,_,by omega,rfl,hstep⟩,by simp [intOf]⟩
theorem Iy(va vb:Value)(la lb:List Nat)(w:World)(ha:Words w va la)(hb:Words w vb lb)(hn:la.length<=4398046511104)(h0:val lb≠0) :
  Calls Tryz.prog 158 #[va,vb] w (Hr (val la) (val lb) w):=by
 rcases Nat.lt_or_ge (val la) (val lb) with h | h
 .exact WW va vb la lb w ha hb hn h
 .by_cases h1:(As (val lb)).length=1
  .exact Tf va vb la lb w ha hb hn h h1
  .have h2:(As (val lb)).length≠0:=λe=>h0 (Bg.1 e)
   exact Tg va vb la lb w ha hb hn h (by omega)
theorem DS{x k:Nat}(h:(As x).length<=k):x<BB^k:=by
 have:=CR (BD x)
 rw [Aw] at this
 exact Nat.lt_of_lt_of_le this (Nat.pow_le_pow_right BR h)
theorem Fq{x k:Nat}(h:x<BB^k):(As x).length<=k:=by
 induction k generalizing x with
 | zero=>simp at h;subst h;rw [Bl];simp
 | succ k ih=>
  by_cases hx:x=0
  .subst hx;rw [Bl];simp
  .rw [DU hx]
   simp only [List.length_cons]
   have:=ih (x:=x/BB) (Nat.div_lt_of_lt_mul (by rw [Nat.pow_succ,Nat.mul_comm] at h;exact h))
   omega
theorem VT:BB^2=18446744073709551616:=by decide
theorem CB{x y k:Nat}(h:x<=y)(hy:(As y).length<=k):(As x).length<=k:=Nat.le_trans (BM h) hy
def A0J(W:World)(G N k:Nat)(X Y:Value)(wr:World):Prop:=
 ∃(x y:Nat) (A A':Option Addr) (n c n' c':Nat),X = .slice A n c/\Y = .slice A' n' c'/\Words wr (.slice A n c) (As x)/\Words wr (.slice A' n' c') (As y)/\Nat.gcd x y=G/\y=k/\(As x).length<=N/\(As y).length<=N/\Ext W wr
def A3P(G:Nat)(m n:Value):Prop:=∃p q:Nat,m = .int .u64 p/\n = .int .u64 q/\p<18446744073709551616/\q<18446744073709551616/\Nat.gcd p q=G
theorem Words.len{w:World}{A:Option Addr}{n c:Nat}{l:List Nat}(h:Words w (.slice A n c) l):n=l.length:=by
 obtain ⟨A',c',hv,_⟩:=h
 injection hv
theorem A1G(b b':Bool)(A A':Option Addr)(n c n' c':Nat)(x y:Int)(w:World)(h:IsInt w (.bool b) (.slice A n c) x)(h':IsInt w (.bool b') (.slice A' n' c') y)(hn:(As x.natAbs).length<=4398046511104)(hn':(As y.natAbs).length<=4398046511104) :
  Calls Tryz.prog 140 #[.agg #[.bool b,.slice A n c],.agg #[.bool b',.slice A' n' c']] w (Es (Nat.gcd x.natAbs y.natAbs) w):=by
 replace h:=Ae h
 replace h':=Ae h'
 replace hn:=Ae hn
 replace hn':=Ae hn'
 go_enter Tryz.func140,Tryz.ntmps140
 go_wp2
 refine wp_region_v (by kernel_rfl) [[], [(11, 0)], [(12, 1)], [(13, 2)], [], [(15, 4)], [(16, 5)], [(17, 6)]] [[], [0], [0, 1], [0, 1, 2], [], [4], [0, 1, 2, 3, 4, 5], [0, 1, 2, 3, 4, 5, 6]]
  [λv _=>v = .pointer (some ⟨w.heap.size,1,none⟩),λv _=>v = .slice A n c,λv w'=>∃A n c,v = .slice A n c/\Words w' (.slice A n c) (As x.natAbs),λv w'=>∃A n c,v = .slice A n c/\Words w' (.slice A n c) (As x.natAbs),λv _=>v = .pointer (some ⟨w.heap.size+1,1,none⟩),λv _=>v = .slice A' n' c',λv w'=>∃A n c,v = .slice A n c/\Words w' (.slice A n c) (As y.natAbs),λv w'=>∃A n c,v = .slice A n c/\Words w' (.slice A n c) (As y.natAbs)]
  rfl (by kernel_rfl) (by kernel_rfl) ?stab ?steps ?fin
 case stab=>exact .cons (Stab.eq _) (.cons (Stab.eq _) (.cons (λ_ _ _ he ⟨A,n,c,h1,h2⟩=>⟨A,n,c,h1,h2.ext he⟩) (.cons (λ_ _ _ he ⟨A,n,c,h1,h2⟩=>⟨A,n,c,h1,h2.ext he⟩) (.cons (Stab.eq _) (.cons (Stab.eq _) (.cons (λ_ _ _ he ⟨A,n,c,h1,h2⟩=>⟨A,n,c,h1,h2.ext he⟩) (.cons (λ_ _ _ he ⟨A,n,c,h1,h2⟩=>⟨A,n,c,h1,h2.ext he⟩) .nil)))))))
 case steps=>
  refine .cons ?s0 (.cons ?s1 (.cons ?s2 (.cons ?s3 (.cons ?s4 (.cons ?s5 (.cons ?s6 (.cons ?s7 .nil)))))))
  case s0=>
   intro w' ev hE hk ha hc hf
   have e2:ev (.tmp 2) = .pointer (some ⟨w.heap.size,0,none⟩):=ha 2 (by decide)
   exact Ao (by simp [execOp,e2,go_sem]) rfl
  case s1=>
   intro w' ev hE hk ha hc hf
   have e11:ev (.tmp 11) = .pointer (some ⟨w.heap.size,1,none⟩):=hk.1 _ rfl
   have c0:w'.cell? ⟨w.heap.size,1,none⟩=some (.slice A n c):=hE.cellv (((((Blk.new _ _ _).alloc _).alloc _).drew.cell 1))
   exact Ao (by simp [execOp,e11,c0,go_sem]) rfl
  case s2=>
   intro w' ev hE hk ha hc hf
   have e12:ev (.tmp 12) = .slice A n c:=hk.1 _ rfl
   refine Bf (by simp [execOp,resolve,invoke,hf,e12,go_sem]) (Cu _ _ _ (h.out.2.ext (((((Ext.refl _).alloc _).alloc _).alloc _).drew.trans hE))) ?_
   rintro e w1 ⟨v1,rfl,hW1,hE1⟩
   obtain ⟨A1,n1,c1,rfl⟩:=hW1.form
   exact ⟨_,rfl,hE1,_,_,_,rfl,by rw [AO (BD _),Aw] at hW1;exact hW1⟩
  case s3=>
   intro w' ev hE hk ha hc hf
   have f13:=hk.1 _ rfl
   obtain ⟨A3,n3,c3,e13,hw3⟩:=f13
   refine Bf (by simp [execOp,resolve,invoke,hf,e13,go_sem]) (HG _ _ _ hw3 (by have:=hn.out;omega)) ?_
   rintro e w1 ⟨v1,rfl,hW1,hE1⟩
   obtain ⟨A1,n1,c1,rfl⟩:=hW1.form
   exact ⟨_,rfl,hE1,_,_,_,rfl,by skip;exact hW1⟩
  case s4=>
   intro w' ev hE hk ha hc hf
   have e3:ev (.tmp 3) = .pointer (some ⟨w.heap.size+1,0,none⟩):=ha 3 (by decide)
   exact Ao (by simp [execOp,e3,go_sem]) rfl
  case s5=>
   intro w' ev hE hk ha hc hf
   have e15:ev (.tmp 15) = .pointer (some ⟨w.heap.size+1,1,none⟩):=hk.1 _ rfl
   have c0:w'.cell? ⟨w.heap.size+1,1,none⟩=some (.slice A' n' c'):=hE.cellv ((((CU _ _ (by simp)).alloc _).drew.cell 1))
   exact Ao (by simp [execOp,e15,c0,go_sem]) rfl
  case s6=>
   intro w' ev hE hk ha hc hf
   have e16:ev (.tmp 16) = .slice A' n' c':=hk.1 _ rfl
   refine Bf (by simp [execOp,resolve,invoke,hf,e16,go_sem]) (Cu _ _ _ (h'.out.2.ext (((((Ext.refl _).alloc _).alloc _).alloc _).drew.trans hE))) ?_
   rintro e w1 ⟨v1,rfl,hW1,hE1⟩
   obtain ⟨A1,n1,c1,rfl⟩:=hW1.form
   exact ⟨_,rfl,hE1,_,_,_,rfl,by rw [AO (BD _),Aw] at hW1;exact hW1⟩
  case s7=>
   intro w' ev hE hk ha hc hf
   have f17:=hk.1 _ rfl
   obtain ⟨A3,n3,c3,e17,hw3⟩:=f17
   refine Bf (by simp [execOp,resolve,invoke,hf,e17,go_sem]) (HG _ _ _ hw3 (by have:=hn'.out;omega)) ?_
   rintro e w1 ⟨v1,rfl,hW1,hE1⟩
   obtain ⟨A1,n1,c1,rfl⟩:=hW1.form
   exact ⟨_,rfl,hE1,_,_,_,rfl,by skip;exact hW1⟩
 case fin=>
  intro g w' hE hF
  obtain ⟨AX,nX,cX,e3,hX⟩:=hF 3 _ rfl
  obtain ⟨AY,nY,cY,e7,hY⟩:=hF 7 _ rfl
  simp only [List.length_cons,List.length_nil,Nat.reduceAdd,List.drop_succ_cons,List.drop_zero,List.take_succ_cons,List.take_zero,Eg,Act.put,List.setIfInBounds_toArray,List.set_cons_succ,List.set_cons_zero,e3,e7]
  clear hF e3 e7
  replace hX:=Ae hX
  replace hY:=Ae hY
  replace hE:=Ae hE
  generalize hG:Nat.gcd x.natAbs y.natAbs=G at *
  replace hG:=Ae hG
  go_wp2
  go_loopg [5,6] (y.natAbs) (λk X Y wr=>A0J (((w.alloc (Obj.cells #[Value.bool b,Value.slice A n c] 69)).alloc (Obj.cells #[Value.bool b',Value.slice A' n' c'] 69)).alloc (Obj.cells #[Value.bool false,Value.slice none 0 0] 69)).drew G 4398046511104 k X Y wr)
  case atStart=>exact ⟨_,_,_,_,_,_,_,_,rfl,rfl,hX.out,hY.out,hG.out,rfl,hn.out,hn'.out,hE.out⟩
  case round=>
   obtain ⟨p,q,A1,A2,n1,c1,n2,c2,rfl,rfl,hW1,hW2,hgc,rfl,hl1,hl2,hEr⟩:=hrel
   clear hX hY hE
   have en1:=hW1.len
   have en2:=hW2.len
   by_cases hq0:q=0
   .subst hq0
    obtain rfl:n2=0:=by rw [en2,Bl];rfl
    have hp:Hid (p=G):=by show p=G;rw [<-hgc];simp
    replace hW1:=Ae hW1
    replace hEr:=Ae hEr
    clear en1 en2 hgc hW2 hl1 hl2
    go_wp2_with fail
    refine (Cv _ _ _ _ hW1.out).mono ?_
    rintro e w2 ⟨b2,A2,n2,k2,rfl,hI2,hE2⟩
    rw [Aw,hp.out] at hI2
    replace hE2:=Ae (hEr.out.trans hE2)
    replace hI2:=Ae hI2
    obtain ⟨hcell,hfr⟩:=hE2.out.cells
    go_wp2
    refine bodyPost_ret (v:=.agg #[.bool b2,.slice A2 n2 k2]) (by simp [results,Tryz.results140,go_sem,hcell]) rfl ⟨_,_,_,_,rfl,?_,?_⟩
    .have ht:Ty w2 (w.heap.size+2) 69:=(CV _ _ (by simp)).drew.ext hE2.out
     exact (hI2.out.set ht (by decide) _).set (ht.set _ _) (by decide) _
    .exact (((((Ext.refl _).alloc _).alloc _).alloc _).drew.trans hE2.out |>.set (by simp<;>omega) _).set (by simp<;>omega) _
   .have hn2:0<n2:=by
     rcases Nat.eq_zero_or_pos n2 with h0 | h0
     .exact absurd (Bg.1 (en2.symm.trans h0)) hq0
     .exact h0
    by_cases hsm:n1<=2/\n2<=2
    .obtain ⟨hs1,hs2⟩:=hsm
     have hpB:p<18446744073709551616:=by rw [<-VT];exact DS (by omega)
     have hqB:q<18446744073709551616:=by rw [<-VT];exact DS (by omega)
     have hl1':(As p).length<=2:=by omega
     have hl2':(As q).length<=2:=by omega
     replace hW1:=Ae hW1
     replace hW2:=Ae hW2
     replace hEr:=Ae hEr
     replace hgc:=Ae hgc
     replace hl1':=Ae hl1'
     replace hl2':=Ae hl2'
     replace hpB:=Ae hpB
     replace hqB:=Ae hqB
     clear en1 en2 hl1 hl2
     have d1:decide ((n1:Int)<=2)=true:=by simp;omega
     have d2:decide ((n2:Int)<=2)=true:=by simp;omega
     go_wp2_with fail
     refine (MT _ _ _ hW1.out hl1'.out).mono ?_
     rintro e w1 ⟨rfl,hE1⟩
     replace hW2:=Ae (hW2.out.ext hE1)
     replace hE1:=Ae (hEr.out.trans hE1)
     go_wp2_with fail
     refine (MT _ _ _ hW2.out hl2'.out).mono ?_
     rintro e w2 ⟨rfl,hE2⟩
     replace hE2:=Ae (hE1.out.trans hE2)
     rw [Aw,Aw]
     go_wp2
     go_loopw [7,8] (λmm nn wr=>A3P G mm nn/\Hid (Ext (((w.alloc (Obj.cells #[Value.bool b,Value.slice A n c] 69)).alloc (Obj.cells #[Value.bool b',Value.slice A' n' c'] 69)).alloc (Obj.cells #[Value.bool false,Value.slice none 0 0] 69)).drew wr)) (λ_ nn _=>(intOf nn).toNat)
     case atStart=>exact ⟨⟨p,q,rfl,rfl,hpB.out,hqB.out,hgc.out⟩,hE2.out⟩
     case round=>
      obtain ⟨⟨p,q,rfl,rfl,hp,hq,hg⟩,hEw⟩:=hrel
      clear hgc hpB hqB hE2 hE1 hEr hW1 hW2 hl1' hl2'
      replace hg:=Ae hg
      by_cases hz:q=0
      .subst hz
       have hpG:Hid (p=G):=by show p=G;rw [<-hg.out];simp
       replace hp:=Ae hp
       go_wp2_with fail
       refine (JH _ _ hp.out).mono ?_
       rintro e w3 ⟨v3,rfl,hW3,hE3⟩
       replace hE3:=Ae (hEw.out.trans hE3)
       replace hW3:=Ae hW3
       go_wp2_with fail
       refine (Cv _ _ _ _ hW3.out).mono ?_
       rintro e w2 ⟨b2,A2,n2,k2,rfl,hI2,hE2⟩
       rw [Aw,hpG.out] at hI2
       replace hE2:=Ae (hE3.out.trans hE2)
       replace hI2:=Ae hI2
       obtain ⟨hcell,hfr⟩:=hE2.out.cells
       go_wp2
       refine bodyPost_ret (v:=.agg #[.bool b2,.slice A2 n2 k2]) (by simp [results,Tryz.results140,go_sem,hcell]) rfl ⟨_,_,_,_,rfl,?_,?_⟩
       .have ht:Ty w2 (w.heap.size+2) 69:=(CV _ _ (by simp)).drew.ext hE2.out
        exact (hI2.out.set ht (by decide) _).set (ht.set _ _) (by decide) _
       .exact (((((Ext.refl _).alloc _).alloc _).alloc _).drew.trans hE2.out |>.set (by simp<;>omega) _).set (by simp<;>omega) _
      .have hq1:(1:Int)<=q:=by omega
       have hm:Hid ((p:Int)%q=((p%q:Nat):Int)):=(Int.natCast_emod _ _).symm
       replace hp:=Ae hp
       have hq':=Ae hq
       clear hq
       go_wp2
       go_quiet (fail)
       go_wp2
       rw [hm.out]
       refine ⟨⟨⟨q,p%q,rfl,rfl,hq'.out,?_,?_⟩,hEw.out.drewN _⟩,?_⟩
       .have:=Nat.mod_lt p (show 0<q by omega)
        have:=hq'.out
        omega
       .have:=hg.out
        rw [<-this,Nat.gcd_comm p q,Nat.gcd_rec q p,Nat.gcd_comm]
       .have:=Nat.mod_lt p (show 0<q by omega)
        simp only [intOf]
        omega
    .have hlen1:(As p).length<=4398046511104:=hl1
     have hrec:Hid (Nat.gcd q (p%q)=G):=by
      show _=G
      rw [<-hgc,Nat.gcd_comm p q,Nat.gcd_rec q p,Nat.gcd_comm]
     have hlr:Hid ((As (p%q)).length<=4398046511104):=CB (Nat.le_of_lt (Nat.mod_lt p (Nat.pos_of_ne_zero hq0))) hl2
     have hqv:Hid (val (As q)≠0):=by show _≠0;rw [Aw];exact hq0
     have hlt:Hid (p%q<q):=Nat.mod_lt p (Nat.pos_of_ne_zero hq0)
     replace hW1:=Ae hW1
     replace hW2:=Ae hW2
     replace hEr:=Ae hEr
     replace hlen1:=Ae hlen1
     replace hl2:=Ae hl2
     clear en1 en2 hgc hl1 hq0
     have hdd:Hid (¬(n1<=2/\n2<=2)):=hsm
     clear hsm
     by_cases d1:n1<=2
     .have hd1:decide ((n1:Int)<=2)=true:=by simp; omega
      have hd2:decide ((n2:Int)<=2)=false:=by have:=hdd.out;simp;omega
      clear hdd
      go_wp2_with fail
      refine (Iy _ _ _ _ _ hW1.out hW2.out hlen1.out hqv.out).mono ?_
      rintro e w2 ⟨A3,A4,n3,c3,n4,c4,rfl,hW3,hW4,hE2⟩
      rw [Aw,Aw] at hW4
      replace hW2:=Ae (hW2.out.ext hE2)
      replace hE2:=Ae (hEr.out.trans hE2)
      replace hW4:=Ae hW4
      clear hW3
      go_wp2
      go_roundg (p%q)
      case measure=>exact hlt.out
      case rel=>exact ⟨_,_,_,_,_,_,_,_,rfl,rfl,hW2.out,hW4.out,hrec.out,rfl,hl2.out,hlr.out,hE2.out⟩
     .have hd1:decide ((n1:Int)<=2)=false:=by simp; omega
      clear hdd
      go_wp2_with fail
      refine (Iy _ _ _ _ _ hW1.out hW2.out hlen1.out hqv.out).mono ?_
      rintro e w2 ⟨A3,A4,n3,c3,n4,c4,rfl,hW3,hW4,hE2⟩
      rw [Aw,Aw] at hW4
      replace hW2:=Ae (hW2.out.ext hE2)
      replace hE2:=Ae (hEr.out.trans hE2)
      replace hW4:=Ae hW4
      clear hW3
      go_wp2
      go_roundg (p%q)
      case measure=>exact hlt.out
      case rel=>exact ⟨_,_,_,_,_,_,_,_,rfl,rfl,hW2.out,hW4.out,hrec.out,rfl,hl2.out,hlr.out,hE2.out⟩
def A0k(q r:Int)(w:World)(e:Ending)(w':World):Prop:=
 ∃(b b':Bool) (A A':Option Addr) (n c n' c':Nat),e = .returned (.tuple #[.agg #[.bool b,.slice A n c],.agg #[.bool b',.slice A' n' c'],.int .i64 0])/\IsInt w' (.bool b) (.slice A n c) q/\IsInt w' (.bool b') (.slice A' n' c') r/\Ext w w'
theorem QY{x y q r:Int}(hy:y≠0)(h:r+y*q=x)(h0:0<=r)(h1:r<y.natAbs):x/y=q/\x%y=r:=by
 rcases Int.lt_or_gt_of_ne hy with hneg | hpos
 .have:=(Int.ediv_emod_unique' (a:=x) (b:=y) (r:=r) (q:=q) hneg).2 ⟨h, h0, by omega⟩
  exact this
 .have:=(Int.ediv_emod_unique (a:=x) (b:=y) (r:=r) (q:=q) hpos).2 ⟨h, h0, by omega⟩
  exact this
theorem Rd{x y:Int}(hy:y≠0)(h:¬x<0\/x.natAbs%y.natAbs=0):x/y=Gn (!(decide (x<0)==decide (y<0))) (x.natAbs/y.natAbs)/\x%y=Gn false (x.natAbs%y.natAbs):=by
  have hyp:0<y.natAbs:=by omega
  have e:=Nat.div_add_mod x.natAbs y.natAbs
  have hlt:=Nat.mod_lt x.natAbs hyp
  generalize x.natAbs/y.natAbs=q at *
  generalize x.natAbs%y.natAbs=r at *
  have e':(y.natAbs:Int)*q+r=x.natAbs:=by exact_mod_cast e
  refine QY hy ?_ (by simp [Gn]) (by simp [Gn];omega)
  have hsx:=IT (z:=x)
  have hsy:=IT (z:=y)
  by_cases hx:x<0
  . have hr : r = 0 := by rcases h with h | h
                          . exact absurd hx h
                          . exact h
    subst hr
    by_cases hy2:y<0
    . have ex:(x.natAbs:Int) = -x:=by omega
      have ey:(y.natAbs:Int) = -y:=by omega
      rw [ex,ey] at e'
      simp [Gn,hx,hy2]
      rw [Int.neg_mul] at e'
      omega
    . have ex:(x.natAbs:Int) = -x:=by omega
      have ey:(y.natAbs:Int)=y:=by omega
      rw [ex,ey] at e'
      simp [Gn,hx,hy2]
      rw [Int.mul_neg]
      omega
  . by_cases hy2:y<0
    . have ex:(x.natAbs:Int)=x:=by omega
      have ey:(y.natAbs:Int) = -y:=by omega
      rw [ex,ey] at e'
      simp [Gn,hx,hy2]
      rw [Int.mul_neg]
      rw [Int.neg_mul] at e'
      omega
    . have ex:(x.natAbs:Int)=x:=by omega
      have ey:(y.natAbs:Int)=y:=by omega
      rw [ex,ey] at e'
      simp [Gn,hx,hy2]
      omega
theorem Pe(b b':Bool)(A A':Option Addr)(n c n' c':Nat)(x y:Int)(w:World)(h:IsInt w (.bool b) (.slice A n c) x)(h':IsInt w (.bool b') (.slice A' n' c') y)(hn:(As x.natAbs).length<=4398046511104)(hn':(As y.natAbs).length<=4398046511104)(hy:y≠0)(hc:¬x<0\/x.natAbs%y.natAbs=0) :
  Calls Tryz.prog 141 #[.agg #[.bool b,.slice A n c],.agg #[.bool b',.slice A' n' c']] w (A0k (x/y) (x%y) w):=by
 have hd:=Ae h.bool_eq
 have hd':=Ae h'.bool_eq
 have hq:=Ae (Rd hy hc)
 have hy0:Hid (y.natAbs≠0):=by show _≠0;omega
 replace h:=Ae h
 replace h':=Ae h'
 replace hn:=Ae hn
 replace hn':=Ae hn'
 replace hc:=Ae hc
 go_enter Tryz.func141,Tryz.ntmps141
 go_wp2_with fail
 refine (Cu _ _ _ (h'.out.2.ext (((((Ext.refl _).alloc _).alloc _).alloc _).alloc _))).mono ?_
 rintro e w1 ⟨v1,rfl,hW1,hE1⟩
 rw [AO (BD _),Aw] at hW1
 obtain ⟨A1,n1,c1,rfl⟩:=hW1.form
 have hn1:n1≠0:=by rw [hW1.len];exact λe=>hy0.out (Bg.1 e)
 have hn1':((n1:Int)==0)=false:=by simpa using hn1
 clear hn1 hW1
 obtain ⟨hcell,hfr⟩:=hE1.cells
 replace hE1:=Ae hE1
 go_wp2_with fail
 refine (Iy _ _ _ _ _ (h.out.2.ext ((((((Ext.refl _).alloc _).alloc _).alloc _).alloc _).trans hE1.out)) (h'.out.2.ext ((((((Ext.refl _).alloc _).alloc _).alloc _).alloc _).trans hE1.out)) hn.out (by rw [Aw];exact hy0.out)).mono ?_
 rintro e w2 ⟨A3,A4,n3,c3,n4,c4,rfl,hW3,hW4,hE2⟩
 rw [Aw,Aw] at hW3 hW4
 have hcond:Hid (b=false\/n4=0):=by
  rcases hc.out with hc | hc
  .left;rw [hd.out];simpa using hc
  .rw [hc] at hW4
   exact .inr (by rw [hW4.len,Bl];rfl)
 replace hE2:=Ae (hE1.out.trans hE2)
 clear hcell hfr
 obtain ⟨hcell,hfr⟩:=hE2.out.cells
 replace hW3:=Ae hW3
 replace hW4:=Ae hW4
 clear hn1'
 cases b with
 | false=>
  clear hcond
  go_wp2_with fail
  refine (Cv _ _ _ _ hW3.out).mono ?_
  rintro e w3 ⟨b5,A5,n5,c5,rfl,hI5,hE3⟩
  rw [Aw,show b' = !(decide (x<0)==decide (y<0)) by rw [<-hd.out,<-hd'.out];cases b'<;>rfl,<-hq.out.1] at hI5
  replace hW4:=Ae (hW4.out.ext hE3)
  replace hI5:=Ae hI5
  replace hE3:=Ae (hE2.out.trans hE3)
  clear hcell hfr
  obtain ⟨hcell,hfr⟩:=hE3.out.cells
  go_wp2_with fail
  refine (Cv _ _ _ _ hW4.out).mono ?_
  rintro e w4 ⟨b6,A6,n6,c6,rfl,hI6,hE4⟩
  rw [Aw,<-hq.out.2] at hI6
  replace hI5:=Ae (hI5.out.ext hE4)
  replace hI6:=Ae hI6
  replace hE4:=Ae (hE3.out.trans hE4)
  clear hcell hfr
  obtain ⟨hcell,hfr⟩:=hE4.out.cells
  go_wp2
  refine bodyPost_ret (v:=.tuple #[.agg #[.bool b5,.slice A5 n5 c5],.agg #[.bool b6,.slice A6 n6 c6],.int .i64 0]) (by simp [results,Tryz.results141,go_sem,hcell]) rfl ⟨_,_,_,_,_,_,_,_,rfl,?_,?_,?_⟩
  .have ht:Ty w4 (w.heap.size+2) 69:=((CV _ _ (by simp)).alloc _).ext hE4.out
   have ht':Ty w4 (w.heap.size+3) 69:=(CV _ _ (by simp)).ext hE4.out
   exact (((hI5.out.set ht (by decide) _).set (ht.set _ _) (by decide) _).set ((ht'.set _ _).set _ _) (by decide) _).set (((ht'.set _ _).set _ _).set _ _) (by decide) _
  .have ht:Ty w4 (w.heap.size+2) 69:=((CV _ _ (by simp)).alloc _).ext hE4.out
   have ht':Ty w4 (w.heap.size+3) 69:=(CV _ _ (by simp)).ext hE4.out
   exact (((hI6.out.set ht (by decide) _).set (ht.set _ _) (by decide) _).set ((ht'.set _ _).set _ _) (by decide) _).set (((ht'.set _ _).set _ _).set _ _) (by decide) _
  .exact ((((((((Ext.refl _).alloc _).alloc _).alloc _).alloc _).trans hE4.out |>.set (by simp<;>omega) _).set (by simp<;>omega) _).set (by simp<;>omega) _).set (by simp<;>omega) _
 | true=>
  obtain rfl:n4=0:=by
   rcases hcond.out with h0 | h0
   .cases h0
   .exact h0
  clear hcond
  go_wp2_with fail
  refine (Cv _ _ _ _ hW3.out).mono ?_
  rintro e w3 ⟨b5,A5,n5,c5,rfl,hI5,hE3⟩
  rw [Aw,show (!b') = !(decide (x<0)==decide (y<0)) by rw [<-hd.out,<-hd'.out];cases b'<;>rfl,<-hq.out.1] at hI5
  replace hW4:=Ae (hW4.out.ext hE3)
  replace hI5:=Ae hI5
  replace hE3:=Ae (hE2.out.trans hE3)
  clear hcell hfr
  obtain ⟨hcell,hfr⟩:=hE3.out.cells
  go_wp2_with fail
  refine (Cv _ _ _ _ hW4.out).mono ?_
  rintro e w4 ⟨b6,A6,n6,c6,rfl,hI6,hE4⟩
  rw [Aw,<-hq.out.2] at hI6
  replace hI5:=Ae (hI5.out.ext hE4)
  replace hI6:=Ae hI6
  replace hE4:=Ae (hE3.out.trans hE4)
  clear hcell hfr
  obtain ⟨hcell,hfr⟩:=hE4.out.cells
  go_wp2
  refine bodyPost_ret (v:=.tuple #[.agg #[.bool b5,.slice A5 n5 c5],.agg #[.bool b6,.slice A6 n6 c6],.int .i64 0]) (by simp [results,Tryz.results141,go_sem,hcell]) rfl ⟨_,_,_,_,_,_,_,_,rfl,?_,?_,?_⟩
  .have ht:Ty w4 (w.heap.size+2) 69:=((CV _ _ (by simp)).alloc _).ext hE4.out
   have ht':Ty w4 (w.heap.size+3) 69:=(CV _ _ (by simp)).ext hE4.out
   exact (((hI5.out.set ht (by decide) _).set (ht.set _ _) (by decide) _).set ((ht'.set _ _).set _ _) (by decide) _).set (((ht'.set _ _).set _ _).set _ _) (by decide) _
  .have ht:Ty w4 (w.heap.size+2) 69:=((CV _ _ (by simp)).alloc _).ext hE4.out
   have ht':Ty w4 (w.heap.size+3) 69:=(CV _ _ (by simp)).ext hE4.out
   exact (((hI6.out.set ht (by decide) _).set (ht.set _ _) (by decide) _).set ((ht'.set _ _).set _ _) (by decide) _).set (((ht'.set _ _).set _ _).set _ _) (by decide) _
  .exact ((((((((Ext.refl _).alloc _).alloc _).alloc _).alloc _).trans hE4.out |>.set (by simp<;>omega) _).set (by simp<;>omega) _).set (by simp<;>omega) _).set (by simp<;>omega) _
theorem IsInt.one{w:World}{b:Bool}{A:Option Addr}{n c:Nat}{z:Int}(h:IsInt w (.bool b) (.slice A n c) z)(h1:z=1):b=false/\n=1/\∃g o,A=some ⟨g,o,none⟩/\w.cell? ⟨g,o,none⟩=some (.int .u32 1):=by
 subst h1
 have hd:As (1:Int).natAbs=[1]:=by
  show As 1=[1]
  rw [DU (by omega)]
  have:(1:Nat)%BB=1:=Nat.mod_eq_of_lt JO
  have h2:(1:Nat)/BB=0:=Nat.div_eq_of_lt JO
  rw [this,h2,Bl]
 have h2:=h.2
 rw [hd] at h2
 obtain ⟨A',c',hv,_,_,hx⟩:=h2.open_
 injection hv with e1 e2 e3
 subst e1;subst e3
 obtain ⟨g,o,hA,_,hc⟩:=hx (by simp)
 exact ⟨h.bool_eq,e2,g,o,hA,hc 0 (by simp)⟩
theorem DZ{x y:Int}{N M:Nat}(hx:(As x.natAbs).length<=N)(hy:(As y.natAbs).length<=M):(As (x*y).natAbs).length<=N+M:=by
 have h1:=DS hx
 have h2:=DS hy
 have h3:(x*y).natAbs<BB^(N+M):=by
  rw [Int.natAbs_mul,Nat.pow_add]
  rcases Nat.eq_zero_or_pos y.natAbs with h0 | h0
  .rw [h0,Nat.mul_zero];exact Nat.mul_pos (Nat.pow_pos BR) (Nat.pow_pos BR)
  .exact Nat.mul_lt_mul_of_lt_of_le h1 (Nat.le_of_lt h2) (Nat.pow_pos BR)
 exact Fq h3
theorem Db{x y:Int}(hy:0<y):(Rat.divInt x y).num=x/(Nat.gcd x.natAbs y.natAbs:Int)/\((Rat.divInt x y).den:Int)=y/(Nat.gcd x.natAbs y.natAbs:Int):=by
 obtain ⟨d,rfl⟩:=Int.eq_ofNat_of_zero_le (Int.le_of_lt hy)
 have hd:d≠0:=by omega
 have:Rat.divInt x (d:Int)=mkRat x d:=rfl
 rw [this,<-Rat.normalize_eq_mkRat hd,Rat.normalize_eq hd]
 exact ⟨rfl,by simp [Int.natCast_ediv]⟩
theorem Nu(a b:Rat):(a*b).num=(Rat.divInt a.num b.den).num*(Rat.divInt b.num a.den).num/\(a*b).den=(Rat.divInt a.num b.den).den*(Rat.divInt b.num a.den).den:=by
 have h1:=Db (x:=a.num) (y:=b.den) (by have:=b.den_nz;omega)
 have h2:=Db (x:=b.num) (y:=a.den) (by have:=a.den_nz;omega)
 have e:a*b=Rat.mul a b:=rfl
 rw [e]
 unfold Rat.mul
 dsimp only
 rw [Int.divExact_eq_ediv,Int.divExact_eq_ediv,Nat.divExact_eq_div,Nat.divExact_eq_div]
 refine ⟨by rw [h1.1,h2.1];rfl,?_⟩
 have e1:(Rat.divInt a.num b.den).den=b.den/Nat.gcd a.num.natAbs b.den:=by
  have:=h1.2;simp at this;exact_mod_cast this
 have e2:(Rat.divInt b.num a.den).den=a.den/Nat.gcd b.num.natAbs a.den:=by
  have:=h2.2;simp at this;exact_mod_cast this
 rw [e1,e2,Nat.mul_comm]
theorem JY(a b:Rat):a+b=Rat.divInt (a.num*b.den+b.num*a.den) ((a.den:Int)*b.den):=by
 rw [Rat.add_def,Rat.normalize_eq_mkRat]
 have:((a.den:Int)*b.den)=((a.den*b.den:Nat):Int):=by simp
 rw [this];rfl
theorem Th(x:Int):(Rat.divInt x 1).num=x/\((Rat.divInt x 1).den:Int)=1:=by
 have h1:=Db (x:=x) (y:=1) (by omega)
 simpa using h1
theorem Mc{x y:Int}(hy:0<y)(h:Nat.gcd x.natAbs y.natAbs=1):(Rat.divInt x y).num=x/\((Rat.divInt x y).den:Int)=y:=by
 have h1:=Db (x:=x) hy
 rw [h] at h1
 simpa using h1
def IsRat(w:World)(c0 c1 c2 c3:Value)(q:Rat):Prop:=IsInt w c0 c1 q.num/\IsInt w c2 c3 (q.den:Int)
theorem IsRat.ext{w w':World}{c0 c1 c2 c3:Value}{q:Rat}(h:IsRat w c0 c1 c2 c3 q)(he:Ext w w'):IsRat w' c0 c1 c2 c3 q:=⟨h.1.ext he,h.2.ext he⟩
theorem IsRat.set{w:World}{c0 c1 c2 c3:Value}{q:Rat}(h:IsRat w c0 c1 c2 c3 q){p:Addr}{t:TypeId}(ht:Ty w p.block t)(hne:t≠136)(u:Value):IsRat (w.setCell p u) c0 c1 c2 c3 q:=⟨h.1.set ht hne u,h.2.set ht hne u⟩
def put4(w:World)(b:Nat)(u0 u1 u2 u3:Value):World:=(((w.setCell ⟨b,0,none⟩ u0).setCell ⟨b,1,none⟩ u1).setCell ⟨b,2,none⟩ u2).setCell ⟨b,3,none⟩ u3
theorem Ty.put4{w:World}{b:Nat}{t:TypeId}(h:Ty w b t)(c:Nat)(u0 u1 u2 u3:Value):Ty (put4 w c u0 u1 u2 u3) b t:=(((h.set _ _).set _ _).set _ _).set _ _
theorem IsInt.put4{w:World}{c0 c1:Value}{z:Int}(h:IsInt w c0 c1 z){b:Nat}{t:TypeId}(ht:Ty w b t)(hne:t≠136)(u0 u1 u2 u3:Value):IsInt (put4 w b u0 u1 u2 u3) c0 c1 z:=
 ((((h.set (p:=⟨b,0,none⟩) ht hne _).set (p:=⟨b,1,none⟩) (ht.set _ _) hne _).set (p:=⟨b,2,none⟩) ((ht.set _ _).set _ _) hne _).set (p:=⟨b,3,none⟩) (((ht.set _ _).set _ _).set _ _) hne _)
theorem IsRat.put4{w:World}{c0 c1 c2 c3:Value}{q:Rat}(h:IsRat w c0 c1 c2 c3 q){b:Nat}{t:TypeId}(ht:Ty w b t)(hne:t≠136)(u0 u1 u2 u3:Value):IsRat (put4 w b u0 u1 u2 u3) c0 c1 c2 c3 q:=⟨h.1.put4 ht hne u0 u1 u2 u3,h.2.put4 ht hne u0 u1 u2 u3⟩
theorem Ext.put4{w w1:World}(h:Ext w w1){b:Nat}(hb:w.heap.size<=b)(u0 u1 u2 u3:Value):Ext w (put4 w1 b u0 u1 u2 u3):=(((h.set (p:=⟨b,0,none⟩) hb _).set (p:=⟨b,1,none⟩) hb _).set (p:=⟨b,2,none⟩) hb _).set (p:=⟨b,3,none⟩) hb _
def Ts(q:Rat)(w:World)(e:Ending)(w':World):Prop:=
 ∃(b b':Bool) (A A':Option Addr) (n c n' c':Nat),e = .returned (.agg #[.bool b,.slice A n c,.bool b',.slice A' n' c'])/\IsRat w' (.bool b) (.slice A n c) (.bool b') (.slice A' n' c') q/\Ext w w'
def RSz(q:Rat)(N:Nat):Prop:=(As q.num.natAbs).length<=N/\(As q.den).length<=N
theorem RSz.mono{q:Rat}{N M:Nat}(h:RSz q N)(hm:N<=M):RSz q M:=⟨Nat.le_trans h.1 hm,Nat.le_trans h.2 hm⟩
theorem Hc(x:Int)(g:Nat)(hg:(g:Int) ∣ x):(x/(g:Int)).natAbs<=x.natAbs:=by
 obtain ⟨k,rfl⟩:=hg
 rcases Nat.eq_zero_or_pos g with h | h
 .subst h;simp
 .rw [Int.mul_ediv_cancel_left _ (by omega), Int.natAbs_mul]
  exact Nat.le_mul_of_pos_left _ (by simpa using h)
theorem HC{x y:Int}(hy:0<y):(Rat.divInt x y).num.natAbs<=x.natAbs/\(Rat.divInt x y).den<=y.natAbs:=by
 have h:=Db (x:=x) hy
 have h1:((Nat.gcd x.natAbs y.natAbs:Nat):Int) ∣ x:=Int.ofNat_dvd_left.2 (Nat.gcd_dvd_left _ _)
 have h2:((Nat.gcd x.natAbs y.natAbs:Nat):Int) ∣ y:=Int.ofNat_dvd_left.2 (Nat.gcd_dvd_right _ _)
 refine ⟨by rw [h.1];exact Hc _ _ h1,?_⟩
 have:=Hc _ _ h2
 rw [<-h.2] at this
 simpa using this
theorem RSz.divInt{x y:Int}{N:Nat}(hy:0<y)(hx:(As x.natAbs).length<=N)(hyn:(As y.natAbs).length<=N):RSz (Rat.divInt x y) N:=
 ⟨CB (HC hy).1 hx,CB (HC hy).2 hyn⟩
theorem den_pos(q:Rat):(0:Int)<q.den:=by have:=q.den_nz;omega
theorem RSz.mul{p q:Rat}{N M:Nat}(hp:RSz p N)(hq:RSz q M):RSz (p*q) (N+M):=by
 have h:=Nu p q
 have l:=HC (x:=p.num) (den_pos q)
 have r:=HC (x:=q.num) (den_pos p)
 simp only [Int.natAbs_natCast] at l r
 constructor
 .rw [h.1]
  exact DZ (CB l.1 hp.1) (CB r.1 hq.1)
 .rw [h.2]
  have:=DZ (x:=((Rat.divInt p.num q.den).den:Int)) (y:=((Rat.divInt q.num p.den).den:Int)) (N:=M) (M:=N) (by simpa using CB l.2 hq.2) (by simpa using CB r.2 hp.2)
  rw [Int.natAbs_mul] at this
  simpa [Nat.add_comm] using this
theorem OW{x y:Int}{N:Nat}(hx:(As x.natAbs).length<=N)(hy:(As y.natAbs).length<=N):(As (x+y).natAbs).length<=N+1:=by
 have h1:=DS hx
 have h2:=DS hy
 refine Fq ?_
 have h3:=Int.natAbs_add_le x y
 have h4:2*BB^N<=BB^N*BB:=by rw [Nat.mul_comm];exact Nat.mul_le_mul_left _ (by decide)
 rw [Nat.pow_succ]
 omega
theorem DG(q:Rat){N:Nat}(h:RSz q N):(As (q.den:Int).natAbs).length<=N:=by simpa using h.2
theorem RSz.add{p q:Rat}{N M:Nat}(hp:RSz p N)(hq:RSz q M):RSz (p+q) (N+M+1):=by
 rw [JY]
 refine RSz.divInt (Int.mul_pos (den_pos p) (den_pos q)) ?_ ?_
 .refine OW (DZ hp.1 (DG q hq)) ?_
  have:=DZ hq.1 (DG p hp)
  rwa [Nat.add_comm] at this
 .exact Nat.le_trans (DZ (DG p hp) (DG q hq)) (by omega)
theorem Ri(z:Int):((z:Rat)).den=1:=rfl
theorem VZ(b:Bool)(A:Option Addr)(n c:Nat)(z:Int)(w:World)(h:IsInt w (.bool b) (.slice A n c) z) :
  Calls Tryz.prog 107 #[.agg #[.bool b,.slice A n c]] w (Ts (z:Rat) w):=by
 replace h:=Ae h
 go_enter Tryz.func107,Tryz.ntmps107
 go_wp2
 refine wp_region_v (by kernel_rfl) [[], [], [(3, 0), (4, 1)]] [[], [], [0, 1]]
  [λv _=>v = .agg #[.bool b,.slice A n c],λv w'=>∃b A n c,v = .agg #[.bool b,.slice A n c]/\IsInt w' (.bool b) (.slice A n c) (1),λv w'=>∃b A n c b' A' n' c',v = .agg #[.bool b,.slice A n c,.bool b',.slice A' n' c']/\IsRat w' (.bool b) (.slice A n c) (.bool b') (.slice A' n' c') ((z:Rat))]
  rfl (by kernel_rfl) (by kernel_rfl) ?stab ?steps ?fin
 case stab=>exact .cons (Stab.eq _) (.cons (λ_ _ _ he ⟨b,A,n,c,h1,h2⟩=>⟨b,A,n,c,h1,h2.ext he⟩) (.cons (λ_ _ _ he ⟨b,A,n,c,b',A',n',c',h1,h2⟩=>⟨b,A,n,c,b',A',n',c',h1,h2.ext he⟩) .nil))
 case steps=>
  refine .cons ?s0 (.cons ?s1 (.cons ?s2 .nil))
  case s0=>
   intro w' ev hE hk ha hc hf
   have e1:ev (.tmp 1) = .pointer (some ⟨w.heap.size,0,none⟩):=ha 1 (by decide)
   have c0:w'.cell? ⟨w.heap.size,0,none⟩=some (.bool b):=hE.cellv (((Blk.new _ _ _).alloc _).drew.cell 0)
   have c1:w'.cell? ⟨w.heap.size,1,none⟩=some (.slice A n c):=hE.cellv (((Blk.new _ _ _).alloc _).drew.cell 1)
   exact Ao (by simp [execOp,e1,c0,c1,go_sem]) rfl
  case s1=>
   intro w' ev hE hk ha hc hf
   refine Bf (by simp [execOp,resolve,invoke,hf,hc,go_sem]) (SO 1 _ (by omega) (by omega)) ?_
   rintro e w1 ⟨b1,A1,n1,k1,rfl,hI1,hE1⟩
   exact ⟨_,rfl,hE1,b1,A1,n1,k1,rfl,hI1⟩
  case s2=>
   intro w' ev hE hk ha hc hf
   have e3:ev (.tmp 3) = .agg #[.bool b,.slice A n c]:=hk.1 _ rfl
   have f4:=hk.2.1 _ rfl
   obtain ⟨b1,A1,n1,c1,e4,hI⟩:=f4
   exact Ao (v:=.agg #[.bool b,.slice A n c,.bool b1,.slice A1 n1 c1]) (by simp [execOp,e3,e4,go_sem]) ⟨_,_,_,_,_,_,_,_,rfl,h.out.ext ((((Ext.refl _).alloc _).alloc _).drew.trans hE),by rw [Ri];exact hI⟩
 case fin=>
  intro g w' hE hF
  obtain ⟨b5,A5,n5,c5,b6,A6,n6,c6,e5,hI5⟩:=hF 2 _ rfl
  simp only [List.length_cons,List.length_nil,Nat.reduceAdd,List.drop_succ_cons,List.drop_zero,List.take_succ_cons,List.take_zero,Eg,Act.put,List.setIfInBounds_toArray,List.set_cons_succ,List.set_cons_zero,e5]
  clear hF e5
  replace hI5:=Ae hI5
  obtain ⟨hcell,hfr⟩:=hE.cells
  replace hE:=Ae hE
  go_wp2
  refine bodyPost_ret (v:=.agg #[.bool b5,.slice A5 n5 c5,.bool b6,.slice A6 n6 c6]) (by simp [results,Tryz.results107,go_sem,hcell]) rfl ⟨_,_,_,_,_,_,_,_,rfl,?_,?_⟩
  .have ht:Ty w' (w.heap.size+1) 71:=(CV _ _ (by simp)).drew.ext hE.out
   exact hI5.out.put4 (b:=w.heap.size+1) ht (by decide) (.bool b5) (.slice A5 n5 c5) (.bool b6) (.slice A6 n6 c6)
  .exact ((((Ext.refl _).alloc _).alloc _).drew.trans hE.out).put4 (b:=w.heap.size+1) (by omega) (.bool b5) (.slice A5 n5 c5) (.bool b6) (.slice A6 n6 c6)
theorem Xk(z:Int)(w:World)(h0:-9223372036854775808<=z)(h1:z<=9223372036854775807) :
  Calls Tryz.prog 60 #[.int .i64 z] w (Ts (z:Rat) w):=by
 go_enter Tryz.func60,Tryz.ntmps60
 go_wp2_with fail
 refine (SO z _ h0 h1).mono ?_
 rintro e w1 ⟨b1,A1,n1,c1,rfl,hI1,hE1⟩
 replace hE1:=Ae hE1
 go_wp2_with fail
 refine (VZ _ _ _ _ _ _ hI1).mono ?_
 rintro e w2 ⟨b2,b3,A2,A3,n2,c2,n3,c3,rfl,hI2,hE2⟩
 replace hE2:=Ae (hE1.out.trans hE2)
 replace hI2:=Ae hI2
 clear hI1 hE1
 obtain ⟨hcell,hfr⟩:=hE2.out.cells
 go_wp2
 refine bodyPost_ret (v:=.agg #[.bool b2,.slice A2 n2 c2,.bool b3,.slice A3 n3 c3]) (by simp [results,Tryz.results60,go_sem,hcell]) rfl ⟨_,_,_,_,_,_,_,_,rfl,?_,?_⟩
 .have ht:Ty w2 w.heap.size 71:=(Ty.new _ _ _).ext hE2.out
  exact hI2.out.put4 ht (by decide) _ _ _ _
 .exact (((Ext.refl _).alloc _).trans hE2.out).put4 (Nat.le_refl _) _ _ _ _
end Go.Proofs.YtialdhnijjnpaaaGreat
