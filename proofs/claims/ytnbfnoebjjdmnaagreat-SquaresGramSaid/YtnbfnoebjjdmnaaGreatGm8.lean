/- Part 8 of the proof of squaresGram_holds. No condition. -/
import Derived.Laws.CopyRow
import Derived.Test.YtnbfnoebjjdmnaaGreatGm5
import Derived.Test.YtnbfnoebjjdmnaaGreatGm7
set_option linter.unusedSimpArgs false
set_option linter.unusedVariables false
set_option maxRecDepth 100000
set_option maxHeartbeats 4000000
namespace Go.Proofs.YtnbfnoebjjdmnaaGreat
open Go.RowKit
theorem Words.old{w w':World}{v:Value}{l:List Nat}(h:Words w v l)(hb:∀k,k<w.heap.size->w'.heap[k]? = w.heap[k]?):Words w' v l:=by
 obtain ⟨A,c,hv,hc,hm,hs,hx⟩:=h
 refine ⟨A,c,hv,hc,hm,hs,λhp=>?_⟩
 obtain ⟨b,o,cs,fz,h1,h2,h3⟩:=hx hp
 exact ⟨b,o,cs,fz,h1,(hb b (AU h2)).trans h2,h3⟩
theorem Lr{P:Program}{w w':World}{ops:Array Oper}{rest:List Oper}{o:Oper}{a:Act}{Q:Exit->Act->World->Prop}(hgd:o.guard=none)(s x:Operand)(t:TypeId)
  (ho:o.op = .call { callee:=.builtin .copy,args:=#[s,x],argTypes:=#[t,t] }) (v u:Value) (hs:a.eval s=v) (hx:a.eval x=u) {v':Value}
  (hrun:(Builtin.copy_ #[t,t] o.type #[v,u]).run P w = .ok v' w') (h:wpList P ops Q rest (a.put o.dst v') w'):wpList P ops Q (o::rest) a w:=by
 refine wpList_plain hgd λK hK=>?_
 unfold Oper.wp execOp
 simp only [ho,resolve,invoke,builtin,Sem.run_bind,Sem.run_pure,Result.andThen_ok,List.map_toArray,List.map_cons,List.map_nil,hs,hx,hrun]
 exact hK _ _ h
theorem LM{w:World}{g n:Nat}{A:Option Addr}{c:Nat}{l:List Nat}(hg:Blk w g 108 (wv (List.replicate n 0)))(h:Words w (.slice A l.length c) l)(h0:0<l.length)(hl:l.length<=n) :
  ∃w',(Builtin.copy_ #[38,38] 3 #[.slice (some ⟨g,0,none⟩) n n,.slice A l.length c]).run Tryz.prog w = .ok (goInt l.length) w'/\Blk w' g 108 (wv (l++List.replicate (n-l.length) 0))/\Only g w w':=by
 obtain ⟨A',c',hv,_,_,hx⟩:=h.open_
 cases hv
 obtain ⟨b,o,rfl,hb,hcell⟩:=hx h0
 have hcs:(wv l).toList.length=l.length:=by simp [wv]
 have hr := run_copy_row Tryz.prog w 38 38 3 108 g 0 n n ⟨b, o, none⟩ l.length c (wv (List.replicate n 0)) 108 (wv l).toList Tryz.underlying38 (by kernel_rfl) hg (by rw [hcs]; exact (Nat.min_eq_left hl).symm)
  (λj v hj=>by
   have hjl:j<l.length:=by have:=(List.getElem?_eq_some_iff.1 hj).1;omega
   rw [Tb,hcell j hjl]
   rw [Array.getElem?_toList,Ch hjl] at hj
   exact hj) (by rw [hcs,A0a];simp;omega) (λv hv=>by simp [wv] at hv;obtain ⟨x,_,rfl⟩:=hv;rfl)
 rw [hcs] at hr
 refine ⟨_,hr,?_,⟨rfl,rfl,rfl,by simp [World.setRow],λk _ hk=>setRow_other w g k _ hk⟩⟩
 have e:((wv (List.replicate n 0)).toList.take 0++(wv l).toList++(wv (List.replicate n 0)).toList.drop (0+l.length)).toArray=wv (l++List.replicate (n-l.length) 0):=by
  simp [wv]
 rw [e]
 exact setRow_heap w g _ _ 108 _ hg
def DvRel(w wr:World)(gu gq:Nat)(ul v U Q:List Nat)(m n k:Nat):Prop:=
 U.length=m+1/\Bn U/\Blk wr gu 108 (wv U)/\Q.length=m-n+1/\Bn Q/\Blk wr gq 108 (wv Q) /\
 val (ul.drop k)=val (Q.drop k)*val v+val (U.drop k)/\U.take k=ul.take k/\val (U.drop k)<val v/\Below gu w wr
theorem DvRel.window{w wr:World}{gu gq:Nat}{ul v U Q:List Nat}{m n k:Nat}(h:DvRel w wr gu gq ul v U Q m n (k+1))(hk:k+n<=m)(hvl:v.length=n)(sv:Bn v) :
  ∃x post,x.length=n+1/\Bn x/\Win wr gu (U.take k) x post/\val x<BB*val v/\val post=0/\U=U.take k++x++post/\val x=U.getD k 0+BB*val (U.drop (k+1))/\(U.take k).length=k:=by
 obtain ⟨h1,h2,h3,h4,h5,h6,h8,h9,h10,h11⟩:=h
 have hsplit:U=U.take k++(U.drop k).take (n+1)++U.drop (k+(n+1)):=by
  rw [List.append_assoc,<-List.drop_drop,List.take_append_drop,List.take_append_drop]
 have hVB:val v<BB^n:=by
  have:=CI sv
  rwa [hvl] at this
 have e1:=CF (l:=U) (k:=k) (by omega)
 have e2:=Fq U k (n+1) (by omega)
 have hUk:=AD h2 k
 have hub:val (U.drop k)<BB*val v:=by
  have:BB*(val (U.drop (k+1))+1)<=BB*val v:=Nat.mul_le_mul_left _ h10
  rw [Nat.mul_add] at this
  omega
 have hp0:val (U.drop (k+(n+1)))=0:=by
  rcases Nat.eq_zero_or_pos (val (U.drop (k+(n+1)))) with h | h
  .exact h
  .exfalso
   have h12:BB^(n+1)*1<=BB^(n+1)*val (U.drop (k+(n+1))):=Nat.mul_le_mul_left _ h
   have h13:BB*val v<=BB*BB^n:=Nat.mul_le_mul_left _ (Nat.le_of_lt hVB)
   have h14:BB^(n+1)=BB*BB^n:=by rw [Nat.pow_succ,Nat.mul_comm]
   omega
 rw [hp0,Nat.mul_zero,Nat.add_zero] at e2
 refine ⟨(U.drop k).take (n+1),U.drop (k+(n+1)),by simp;omega,Cl (LC h2 k) _,?_,by rw [<-e2];exact hub,hp0,hsplit,by rw [<-e2];exact e1,by simp;omega⟩
 unfold Win
 rw [<-hsplit]
 exact h3
theorem DvRel.step{w wr w1:World}{gu gq:Nat}{ul v U Q x x' post:List Nat}{m n k q:Nat}(h:DvRel w wr gu gq ul v U Q m n (k+1))(hk:k+n<=m)(hul:ul.length=m+1)(hx:x.length=n+1)(hU:U=U.take k++x++post)(hpl:(U.take k).length=k)(hp0:val post=0)(hxv:val x=U.getD k 0+BB*val (U.drop (k+1)))
  (hx':x'.length=n+1) (sx':Bn x') (hW:Win w1 gu (U.take k) x' post) (hO:Only gu wr w1) (hq:q<BB) (Fd:val x'+q*val v=val x) (hlt:val x'<val v) (hgq:gu<gq) {e:Int} (he:e=(q:Nat)) :
  DvRel w (w1.setCell ⟨gq,k,none⟩ (.int .u32 e)) gu gq ul v (U.take k++x'++post) (Q.set k q) m n k:=by
 obtain ⟨h1,h2,h3,h4,h5,h6,h8,h9,h10,h11⟩:=h
 have sU:Bn (U.take k):=Cl h2 k
 have sp:Bn post:=λy hy=>h2 y (by rw [hU];simp [hy])
 have hk1:k<U.length:=by omega
 have hql:Blk w1 gq 108 (wv Q):=(hO.block gq (Blk.lt h6) (by omega)).trans h6
 have hd:(U.take k++x'++post).drop k=x'++post:=by
  rw [List.append_assoc,List.drop_append,List.drop_eq_nil_of_le (by omega),hpl,Nat.sub_self];rfl
 have ht:(U.take k++x'++post).take k=U.take k:=by
  rw [List.append_assoc,List.take_append,hpl,Nat.sub_self,List.take_of_length_le (by omega)];simp
 have hul':ul.take k=U.take k:=by
  have:(U.take (k+1)).take k=(ul.take (k+1)).take k:=by rw [h9]
  rw [List.take_take,List.take_take,Nat.min_eq_left (by omega)] at this
  exact this.symm
 have huk:ul.getD k 0=U.getD k 0:=by
  have:(U.take (k+1)).getD k 0=(ul.take (k+1)).getD k 0:=by rw [h9]
  simp only [List.getD_eq_getElem?_getD,List.getElem?_take] at this
  simpa using this.symm
 refine ⟨?_,?_,?_,by simpa using h4,BX h5 k hq,?_,?_,?_,?_,?_⟩
 .have e1:(U.take k++x++post).length=m+1:=by rw [<-hU]; exact h1
  simp only [List.length_append] at e1 ⊢
  omega
 .intro y hy
  rcases List.mem_append.1 hy with hy | hy
  .rcases List.mem_append.1 hy with hy | hy
   .exact sU y hy
   .exact sx' y hy
  .exact sp y hy
 .exact Blk.far hW (by dsimp only;omega) _
 .rw [he,<-EQ];exact hql.set k _
 .rw [hd, EI hp0, CF (l:=ul) (by omega), CF (l:=Q.set k q) (by rw [List.length_set]; omega), HK, BC (by omega), h8, huk]
  have:BB*(val (Q.drop (k+1))*val v+val (U.drop (k+1)))=BB*val (Q.drop (k+1))*val v+BB*val (U.drop (k+1)):=by rw [Nat.mul_add,Nat.mul_assoc]
  rw [this,Nat.add_mul]
  omega
 .rw [ht,hul']
 .rw [hd,EI hp0];exact hlt
 .have hb1:Below gu w w1:=⟨hO.os.trans h11.os, hO.tape.trans h11.tape, hO.output.trans h11.output, Nat.le_trans h11.size hO.size, λi hi=>(hO.block i (by have:=Blk.lt h3; omega) (by omega)).trans (h11.block i hi)⟩
  exact Below.setCell hb1 (by dsimp only;omega) _
theorem Sv{y n t D:Nat}(hl:(Am y).length=n+1)(ht:(Am y).getD n 0=t)(h0:0<t)(hD:D=BB/(t+1)) :
  0<D/\D<BB/\(Am (y*D)).length=n+1/\2147483648<=(Am (y*D)).getD n 0:=by
 have htB:t<BB:=by rw [<-ht];exact AD (Bk y) n
 have hD1:(t+1)*D<=BB:=by rw [hD];exact Nat.mul_div_le BB (t+1)
 have hD0:0<D:=by rw [hD];exact Nat.div_pos (by omega) (by omega)
 have hDB:D<BB:=by
  have:2*D<=(t+1)*D:=Nat.mul_le_mul_right _ (by omega)
  have:=BP
  omega
 have htD:2147483648<=t*D:=by
  have h2:BB<(t+1)*(D+1):=by rw [hD];exact Nat.lt_mul_div_succ BB (by omega)
  rw [Nat.add_mul,Nat.mul_add,Nat.mul_one,Nat.one_mul] at h2
  rw [Bb] at *
  obtain ⟨a,rfl⟩:∃a,t=a+1:=⟨t-1,by omega⟩
  obtain ⟨b,hb⟩:∃b,D=b+1:=⟨D-1,by omega⟩
  have e:(a+1)*D=a*b+a+b+1:=by rw [hb,Nat.add_mul,Nat.mul_add];omega
  omega
 have ey:=CJ hl
 rw [Ao,ht] at ey
 have hlow:val ((Am y).take n)<BB^n:=by
  have:=CI (Cl (Bk y) n)
  rwa [List.length_take,Nat.min_eq_left (by omega)] at this
 have hub:y*D<BB^(n+1):=by
  have h3:y+1<=BB^n*(t+1):=by rw [Nat.mul_add];omega
  have h4:(y+1)*D<=BB^n*(t+1)*D:=Nat.mul_le_mul_right _ h3
  have h6:BB^n*(t+1)*D<=BB^n*BB:=by rw [Nat.mul_assoc];exact Nat.mul_le_mul_left _ hD1
  rw [Nat.pow_succ]
  rw [Nat.add_mul] at h4
  omega
 have hlb:BB^n*2147483648<=y*D:=by
  have h3:BB^n*t<=y:=by omega
  have h4:BB^n*t*D<=y*D:=Nat.mul_le_mul_right _ h3
  have h6:BB^n*2147483648<=BB^n*(t*D):=Nat.mul_le_mul_left _ htD
  rw [Nat.mul_assoc] at h4
  omega
 generalize y*D=z at *
 have hL:(Am z).length=n+1:=by
  have h1:=CI (Bk z)
  rw [Ao] at h1
  have h2:n<(Am z).length:=by
   rcases Nat.lt_or_ge n (Am z).length with h | h
   .exact h
   .have h3:BB^(Am z).length<=BB^n:=Nat.pow_le_pow_right BP h
    have h4:BB^n*1<=BB^n*2147483648:=Nat.mul_le_mul_left _ (by omega)
    omega
  rcases Nat.lt_or_ge (n+1) (Am z).length with h | h
  .exfalso
   obtain ⟨k,hk⟩:∃k,(Am z).length=k+1:=⟨(Am z).length-1,by omega⟩
   have e:=CJ hk
   rw [Ao] at e
   have h3:=Cw hk
   have h4:BB^k*1<=BB^k*(Am z).getD k 0:=Nat.mul_le_mul_left _ h3
   have h5:BB^(n+1)<=BB^k:=Nat.pow_le_pow_right BP (by omega)
   omega
  .omega
 refine ⟨hD0,hDB,hL,?_⟩
 have e:=CJ hL
 rw [Ao] at e
 have h7:val ((Am z).take n)<BB^n:=by
  have:=CI (Cl (Bk z) n)
  rwa [List.length_take,Nat.min_eq_left (by omega)] at this
 have h8:BB^n*2147483648<BB^n*((Am z).getD n 0+1):=by rw [Nat.mul_add];omega
 have:=Nat.lt_of_mul_lt_mul_left h8
 omega
theorem Wt{a b D q r:Nat}(hs:0<D)(hb:0<b)(h:a*D=q*(b*D)+r)(hr:r<b*D):a/b=q/\r/D=a%b:=by
 have h1:(a*D)/(b*D)=q:=by
  rw [h,Nat.mul_comm q,Nat.mul_add_div (Nat.mul_pos hb hs),Nat.div_eq_of_lt hr,Nat.add_zero]
 have h2:(a*D)%(b*D)=r:=by
  rw [h,Nat.mul_comm q,Nat.mul_add_mod,Nat.mod_eq_of_lt hr]
 rw [Nat.mul_div_mul_right _ _ hs] at h1
 rw [Nat.mul_mod_mul_right] at h2
 refine ⟨h1,?_⟩
 rw [<-h2,Nat.mul_div_cancel _ hs]
theorem OM{ul:List Nat}{x y m n D:Nat}(hx:(Am x).length=m)(hy:(Am y).length=n+1)(hle:n+1<=m)(hul:ul.length=m+1)(hu:val ul=x*D)(hD:0<D):val (ul.drop (m-(n+1)+1))<y*D:=by
 have h1:x<BB^m:=by have:=CI (Bk x);rwa [Ao,hx] at this
 have h2:BB^n<=y:=by
  have e:=CJ hy
  rw [Ao] at e
  have:=Cw hy
  have h3:BB^n*1<=BB^n*(Am y).getD n 0:=Nat.mul_le_mul_left _ this
  omega
 have e1:m-(n+1)+1=m-n:=by omega
 rw [e1]
 have h3:val ul=val (ul.take (m-n))+BB^(m-n)*val (ul.drop (m-n)):=by
  have:=Fr (ul.take (m-n)) (ul.drop (m-n))
  rw [List.take_append_drop,List.length_take,Nat.min_eq_left (by omega)] at this
  exact this
 have h4:x*D<BB^m*D:=Nat.mul_lt_mul_of_pos_right h1 hD
 have h5:BB^m*D=BB^(m-n)*(BB^n*D):=by
  rw [<-Nat.mul_assoc,<-Nat.pow_add,show m-n+n=m by omega]
 have h6:BB^(m-n)*val (ul.drop (m-n))<BB^(m-n)*(BB^n*D):=by omega
 have h7:=Nat.lt_of_mul_lt_mul_left h6
 have h8:BB^n*D<=y*D:=Nat.mul_le_mul_right _ h2
 omega
theorem Sw{x m D:Nat}(hx:(Am x).length=m)(hD:D<BB):(Am (x*D)).length<=m+1:=by
 have h1:x<BB^m:=by have:=CI (Bk x);rwa [Ao,hx] at this
 have h2:x*D<BB^(m+1):=by
  rw [Nat.pow_succ]
  rcases Nat.eq_zero_or_pos D with h | h
  .rw [h,Nat.mul_zero];exact Nat.mul_pos (Nat.pow_pos BP) BP
  .exact Nat.lt_of_lt_of_le (Nat.mul_lt_mul_of_pos_right h1 h) (Nat.mul_le_mul_left _ (Nat.le_of_lt hD))
 generalize x*D=z at *
 rcases Nat.lt_or_ge (m+1) (Am z).length with h | h
 .exfalso
  obtain ⟨k,hk⟩:∃k,(Am z).length=k+1:=⟨(Am z).length-1,by omega⟩
  have e:=CJ hk
  rw [Ao] at e
  have h3:=Cw hk
  have h4:BB^k*1<=BB^k*(Am z).getD k 0:=Nat.mul_le_mul_left _ h3
  have h5:BB^(m+1)<=BB^k:=Nat.pow_le_pow_right BP (by omega)
  omega
 .exact h
theorem Va(n:Nat):val (List.replicate n 0)=0:=by
 induction n with
 | zero=>rfl
 | succ n ih=>simp [List.replicate_succ,val,ih]
theorem Words.cellAt{w:World}{b o n c:Nat}{l:List Nat}(h:Words w (.slice (some ⟨b,o,none⟩) n c) l){i:Nat}(hi:i<l.length):w.cell? ⟨b,o+i,none⟩=some (.int .u32 (l.getD i 0:Nat)):=by
 obtain ⟨A,c',hv,_,_,hx⟩:=h.open_
 cases hv
 obtain ⟨b',o',e,_,hcell⟩:=hx (by omega)
 cases e
 exact hcell i hi
theorem WO(b bv ov n cu cv P:Nat)(pre post u v:List Nat)(w:World)(hP:pre.length=P)(hW:Win w b pre u post)(hu:u.length=n+1)(hv:v.length=n)(hn2:2<=n)(hn:n<=4398046511104)(su:Bn u)(sv:Bn v)
  (hvc:∀i,i<n->w.cell? ⟨bv,ov+i,none⟩=some (.int .u32 (v.getD i 0:Nat))) (hcu:n+1<=cu) (hcv:n<=cv) (htop:2147483648<=v.getD (n-1) 0) (hlt:val u<BB*val v) :
  Calls Tryz.prog 129 #[.slice (some ⟨b,P,none⟩) (n+1) cu,.slice (some ⟨bv,ov,none⟩) n cv] w (Rx w u v):=by
 subst hP
 exact Td b bv ov n cu cv pre post u v w hW hu hv hn2 hn su sv hvc hcu hcv htop hlt
theorem Rz(va vb:Value)(x y:Nat)(w:World)(ha:Words w va (Am x))(hb:Words w vb (Am y))(hlt:x<y) :
  Calls Tryz.prog 106 #[va,vb] w (HT x y w):=by
 obtain ⟨A,n,c,rfl⟩:=ha.form
 replace ha:=Ac ha
 replace hb:=Ac hb
 have hcmp:Df x y<0:=by unfold Df;rw [if_pos hlt];omega
 replace hlt:=Ac hlt
 go_enter Tryz.func106,Tryz.ntmps106
 go_wp2_with fail
 refine (Ds _ _ _ _ _ ha.out hb.out).mono ?_
 rintro e w3 ⟨rfl,hE3⟩
 replace ha:=Ac (ha.out.ext hE3)
 replace hE3:=Ac hE3
 go_wp2
 go_ret2
 refine ⟨_,_,_,_,_,_,rfl,?_,?_,hE3.out⟩
 .rw [Nat.div_eq_of_lt hlt.out,Bo];exact Words.nil _ _ _ (by omega)
 .rw [Nat.mod_eq_of_lt hlt.out];exact ha.out
theorem PF(va vb:Value)(x y:Nat)(w:World)(ha:Words w va (Am x))(hb:Words w vb (Am y))(hn:(Am x).length<=4398046511104)(hge:y<=x)(h1:(Am y).length=1) :
  Calls Tryz.prog 106 #[va,vb] w (HT x y w):=by
 have hcmp:¬Df x y<0:=by unfold Df;rw [if_neg (by omega)];split<;>omega
 obtain ⟨t,ht⟩:∃t,Am y=[t]:=by
  match hd:Am y,h1 with
  | [t],_=>exact ⟨t,rfl⟩
 have htv:Hid (y=t):=by
  show y=t
  rw [<-Ao y,ht];simp [val]
 have htB:t<4294967296:=by
  have:=Bk y t (by rw [ht];simp)
  rwa [Bb] at this
 have ht0:0<t:=by
  have:=Cw (y:=y) (n:=0) h1
  rw [ht] at this
  simpa using this
 replace hn:=Ac hn
 replace hge:=Ac hge
 clear h1
 replace ha:=Ac ha
 replace hb:=Ac hb
 replace ht:=Ac ht
 go_enter Tryz.func106,Tryz.ntmps106
 go_wp2_with fail
 refine (Ds _ _ _ _ _ ha.out hb.out).mono ?_
 rintro e w3 ⟨rfl,hE3⟩
 have hW1:=Ac (ha.out.ext hE3)
 have hW2:=hb.out.ext hE3
 replace hE3:=Ac hE3
 rw [ht.out] at hW2
 obtain ⟨A2,c2,rfl,hc2,hm2,hx2⟩:=hW2.open_
 obtain ⟨b2,o2,rfl,hb2,hcell2⟩:=hx2 (by simp)
 replace hcell2:w3.cell? ⟨b2,o2,none⟩=some (.int .u32 (t:Nat)):=hcell2 0 (by simp)
 clear hx2 hW2
 go_wp2_with fail
 refine (JC _ _ t _ hW1.out hn.out ht0 htB).mono ?_
 rintro e w4 ⟨v4,rfl,hW4,hE4⟩
 obtain ⟨A4,n4,c4,rfl⟩:=hW4.form
 replace hW4:=Ac hW4
 replace hE4:=Ac (hE3.out.trans hE4)
 have hrB:val (Am x)%t<18446744073709551616:=by have:=Nat.mod_lt (val (Am x)) ht0;omega
 replace hrB:=Ac hrB
 clear hcell2
 go_wp2_with fail
 refine (FK _ _ hrB.out).mono ?_
 rintro e w5 ⟨v5,rfl,hW5,hE5⟩
 obtain ⟨A5,n5,c5,rfl⟩:=hW5.form
 replace hW4:=Ac (hW4.out.ext hE5)
 replace hW5:=Ac hW5
 replace hE5:=Ac (hE4.out.trans hE5)
 go_wp2
 go_ret2
 refine ⟨_,_,_,_,_,_,rfl,?_,?_,hE5.out⟩
 .have:=hW4.out;rw [Ao] at this;rw [htv.out];exact this
 .have:=hW5.out;rw [Ao] at this;rw [htv.out];exact this
set_option maxRecDepth 1000000 in
theorem PG(va vb:Value)(x y:Nat)(w:World)(ha:Words w va (Am x))(hb:Words w vb (Am y))(hlen:(Am x).length<=4398046511103)(hge:y<=x)(h2:2<=(Am y).length) :
  Calls Tryz.prog 106 #[va,vb] w (HT x y w):=by
 have hcmp:¬Df x y<0:=by unfold Df;rw [if_neg (by omega)];split<;>omega
 have hle:=BI hge
 obtain ⟨n,hn1⟩:∃n,(Am y).length=n+1:=⟨(Am y).length-1,by omega⟩
 obtain ⟨m,hm1⟩:∃m,(Am x).length=m:=⟨_,rfl⟩
 have ht0:=Cw hn1
 have htB:=AD (Bk y) n
 generalize ht:(Am y).getD n 0=t at *
 unfold BB at htB
 obtain ⟨D,hD⟩:∃D,D=BB/(t+1):=⟨_,rfl⟩
 obtain ⟨hD0,hDB,hvl,htop⟩:=Sv hn1 ht ht0 hD
 have hquo:(4294967296:Int)/((t:Int)+1)=(D:Int):=by rw [hD,Bb];rfl
 have hul0:=Sw hm1 hDB
 have hy0:0<y:=by
  rcases Nat.eq_zero_or_pos y with h | h
  .rw [h,Bo] at hn1;simp at hn1
  .exact h
 have hxD:0<(Am (x*D)).length:=by
  rcases Nat.eq_zero_or_pos (Am (x*D)).length with h | h
  .have:=AT.1 h
   have:=Nat.mul_pos (show 0<x by omega) hD0
   omega
  .exact h
 rw [hm1] at hlen hle
 rw [hn1] at hle h2
 have hn2:1<=n:=by omega
 clear h2
 unfold BB at hDB
 have hDl:Hid ((Am D).length<=4398046511104):=by
  have h1:=CI (Bk D)
  rw [Ao] at h1
  show _<=_
  rcases Nat.lt_or_ge 2 (Am D).length with h | h
  .exfalso
   obtain ⟨k,hk⟩:∃k,(Am D).length=k+1:=⟨(Am D).length-1,by omega⟩
   have e:=CJ hk
   rw [Ao] at e
   have h3:=Cw hk
   have h4:BB^k*1<=BB^k*(Am D).getD k 0:=Nat.mul_le_mul_left _ h3
   have h5:BB<=BB^k:=by have:=Nat.pow_le_pow_right BP (show 1<=k by omega);rwa [Nat.pow_one] at this
   have h6:=Bb
   omega
  .omega
 replace ht:=Ac ht
 replace hn1:=Ac hn1
 replace hm1:=Ac hm1
 replace hge:=Ac hge
 replace hD:=Ac hD
 replace hvl:=Ac hvl
 replace htop:=Ac htop
 replace hul0:=Ac hul0
 replace hxD:=Ac hxD
 replace hy0:=Ac hy0
 have hmk1:=λW=>By (m+1) (by omega) .i64 .i64 W
 have hmk:=λW=>By (m-(n+1)+1) (by omega) .i64 .i64 W
 have hsub:((m-(n+1)+1:Nat):Int)=(m:Int)-((n:Int)+1)+1:=by omega
 rw [hsub] at hmk
 simp only [Int.natCast_add,Int.natCast_one] at hmk1
 clear hsub
 replace ha:=Ac ha
 replace hb:=Ac hb
 go_enter Tryz.func106,Tryz.ntmps106
 go_wp2_with fail
 refine (Ds _ _ _ _ _ ha.out hb.out).mono ?_
 rintro e w1 ⟨rfl,hE1⟩
 have hW1:=ha.out.ext hE1
 have hW2:=hb.out.ext hE1
 replace hE1:=Ac hE1
 clear ha hb
 obtain ⟨A1,c1,rfl,hc1,hm1',hx1⟩:=hW1.open_
 clear hx1
 obtain ⟨A2,c2,rfl,hc2,hm2,hx2⟩:=hW2.open_
 obtain ⟨b2,o2,rfl,hb2,hcell2⟩:=hx2 (by rw [hn1.out];omega)
 replace hcell2:w1.cell? ⟨b2,o2+n,none⟩=some (.int .u32 (t:Nat)):=by have:=hcell2 n (by rw [hn1.out];omega);rw [ht.out] at this;exact this
 clear hx2
 rw [hn1.out] at hc2 hW2 ⊢
 rw [hm1.out] at hc1 hW1 ⊢
 replace hW1:=Ac hW1
 replace hW2:=Ac hW2
 have hne1:(((n+1:Nat):Int)==1)=false:=by simp;omega
 go_wp2_with fail
 refine (FK D _ (by omega)).mono ?_
 rintro e w2 ⟨vd,rfl,hWd,hE2⟩
 replace hW1:=Ac (hW1.out.ext hE2)
 replace hW2:=Ac (hW2.out.ext hE2)
 replace hE2:=Ac (hE1.out.trans hE2)
 replace hWd:=Ac hWd
 clear hE1 hcell2
 go_wp2_with fail
 refine (IR _ _ _ _ _ hW2.out hWd.out (by rw [hn1.out];omega) hDl.out).mono ?_
 rintro e w3 ⟨vv,rfl,hWv,hE3⟩
 rw [Ao,Ao] at hWv
 replace hW1:=Ac (hW1.out.ext hE3)
 replace hE3:=Ac (hE2.out.trans hE3)
 clear hE2 hWd hW2
 obtain ⟨Av,cv,rfl,hcv,hmv,hxv⟩:=hWv.open_
 obtain ⟨bv,ov,rfl,hbv,hcellv⟩:=hxv (by rw [hvl.out];omega)
 rw [hvl.out] at hcv hWv ⊢
 replace hWv:=Ac hWv
 clear hxv
 have sv:=Ac (Bk (y*D))
 have hvv:Hid (val (Am (y*D))=y*D):=Ao _
 generalize Am (y*D)=v at *
 have hBu0:Hid (Blk (w3.alloc (.cells (wv (List.replicate (m+1) 0)) 108)) w3.heap.size 108 (wv (List.replicate (m+1) 0))):=Blk.new _ _ _
 have hEu:Hid (Ext w3 (w3.alloc (.cells (wv (List.replicate (m+1) 0)) 108))):=(Ext.refl _).alloc _
 go_wp2_with fail
 generalize (w3.alloc (.cells (wv (List.replicate (m+1) 0)) 108))=w4 at *
 refine (FK D _ (by omega)).mono ?_
 rintro e w5 ⟨vd,rfl,hWd,hE5⟩
 replace hW1:=Ac (hW1.out.ext (hEu.out.trans hE5))
 replace hBu0:=Ac (hBu0.out.ext hE5)
 replace hEu:=Ac (hEu.out.trans hE5)
 replace hWd:=Ac hWd
 clear hE5
 go_wp2_with fail
 refine (IR _ _ _ _ _ hW1.out hWd.out (by rw [hm1.out];omega) hDl.out).mono ?_
 rintro e w6 ⟨vu,rfl,hWu,hE6⟩
 rw [Ao,Ao] at hWu
 replace hBu0:=Ac (hBu0.out.ext hE6)
 replace hEu:=Ac (hEu.out.trans hE6)
 clear hE6 hWd hW1
 obtain ⟨Au,cu,rfl,hcu,hmu,_⟩:=hWu.open_
 have su0:=Bk (x*D)
 have hvu0:val (Am (x*D))=x*D:=Ao _
 generalize Am (x*D)=u0 at *
 obtain ⟨w7,hcp,hBu,hOu⟩:=LM hBu0.out hWu hxD.out hul0.out
 obtain ⟨ul,hulE⟩:∃ul,ul=u0++List.replicate (m+1-u0.length) 0:=⟨_,rfl⟩
 have hull:Hid (ul.length=m+1):=by have:=hul0.out;rw [hulE,List.length_append,List.length_replicate];show _=_;omega
 have sul:Hid (Bn ul):=λz hz=>by
  rw [hulE] at hz
  rcases List.mem_append.1 hz with h | h
  .exact su0 z h
  .exact Bs _ z h
 have hvul:Hid (val ul=x*D):=by rw [hulE,EI (Va _),hvu0];rfl
 rw [<-hulE] at hBu
 have hbel:Hid (Below w3.heap.size w3 w7):=⟨hOu.os.trans hEu.out.os,hOu.tape.trans hEu.out.tape,hOu.output.trans hEu.out.output,Nat.le_trans hEu.out.size hOu.size,λi hi=>(hOu.block i (Nat.lt_of_lt_of_le hi hEu.out.size) (by omega)).trans (hEu.out.block hi)⟩
 have hu0l:=Ac hul0.out
 replace hcp:=Ac hcp
 replace hBu:=Ac hBu
 clear hOu hBu0 hEu hWu su0 hvu0 hxD hul0 hulE
 have hgw:=hE3.out.size
 generalize hgu:w3.heap.size=gu at *
 replace hgu:=Ac hgu
 go_upto_region 11 with (refine Lr rfl _ _ _ rfl _ _ rfl rfl hcp.out ?_)
 clear hcp
 have hEq7:Hid (Ext w3 w7):=by rw [<-hgu.out] at hbel;exact hbel.out
 have hBu7:Hid (Blk (w7.alloc (.cells (wv (List.replicate (m-(n+1)+1) 0)) 108)) gu 108 (wv ul)):=hBu.out.alloc _
 have hBq7:Hid (Blk (w7.alloc (.cells (wv (List.replicate (m-(n+1)+1) 0)) 108)) w7.heap.size 108 (wv (List.replicate (m-(n+1)+1) 0))):=Blk.new _ _ _
 have hb7:Hid (Below gu w3 (w7.alloc (.cells (wv (List.replicate (m-(n+1)+1) 0)) 108))):=Below.alloc hbel.out (by have:=hbel.out.size;have:=hgu.out;omega) _
 have hgq:gu<w7.heap.size:=Blk.lt hBu.out
 have hstart:=Ac (OM hm1.out hn1.out hle hull.out hvul.out hD0)
 go_upto_region 13 with (fail)
 generalize (w7.alloc (.cells (wv (List.replicate (m-(n+1)+1) 0)) 108))=w8 at *
 generalize w7.heap.size=gq at *
 clear hbel hBu hmk hmk1 hEq7
 go_loopw [13] (λi wr=>∃(k:Nat) (U Q:List Nat),k<=m-(n+1)+1/\i = .int .i64 ((k:Int)-1)/\Hid (DvRel w3 wr gu gq ul v U Q m (n+1) k)) (λi _=>(intOf i+1).toNat)
 case atStart=>
  refine ⟨m-(n+1)+1,ul,List.replicate (m-(n+1)+1) 0,Nat.le_refl _,by congr 1;omega,hull.out,sul.out,hBu7.out,by simp,Bs _,hBq7.out,?_,rfl,?_,hb7.out⟩
  .have:(List.replicate (m-(n+1)+1) 0).drop (m-(n+1)+1)=[]:=List.drop_eq_nil_of_le (by simp)
   rw [this];simp [val]
  .rw [hvv.out];exact hstart.out
 case round=>
  obtain ⟨k,U,Q,hk,rfl,hR⟩:=hrel
  clear hBu7 hBq7 hb7 hstart
  by_cases hk0:k=0
  .subst hk0
   have hWq:Hid (Words wr (.slice (some ⟨gq,0,none⟩) (m-(n+1)+1) (m-(n+1)+1)) Q):=by
    have:=Bu (c:=m-(n+1)+1) hR.out.2.2.2.2.2.1 hR.out.2.2.2.2.1 (by rw [hR.out.2.2.2.1];omega) (by omega)
    rw [hR.out.2.2.2.1] at this
    exact this
   have hWu:Hid (Words wr (.slice (some ⟨gu,0,none⟩) (m+1) (m+1)) U):=by
    have:=Bu (c:=m+1) hR.out.2.2.1 hR.out.2.1 (by rw [hR.out.1];omega) (by omega)
    rw [hR.out.1] at this
    exact this
   have hlU:Hid ((Am (val U)).length<=4398046511104):=by
    have h1:=EX U
    rw [AM hR.out.2.1,hR.out.1] at h1
    show _<=_
    omega
   have hfin:Hid (x/y=val Q/\val U/D=x%y):=by
    have h1:=hR.out.2.2.2.2.2.2.1
    have h2:=hR.out.2.2.2.2.2.2.2.2.1
    simp only [List.drop_zero] at h1 h2
    rw [hvul.out,hvv.out] at h1
    rw [hvv.out] at h2
    exact Wt hD0 hy0.out h1 h2
   have hEw:Hid (Ext w wr):=hE3.out.trans (by have:=hR.out.2.2.2.2.2.2.2.2.2;rw [<-hgu.out] at this;exact this)
   go_wp2_with fail
   refine (DO _ _ _ hWu.out).mono ?_
   rintro e w9 ⟨v9,rfl,hW9,hE9⟩
   rw [AM hR.out.2.1] at hW9
   replace hWq:=Ac (hWq.out.ext hE9)
   replace hEw:=Ac (hEw.out.trans hE9)
   replace hW9:=Ac hW9
   clear hE9 hWu
   go_wp2_with fail
   refine (JC _ _ D _ hW9.out hlU.out hD0 hDB).mono ?_
   rintro e w10 ⟨v10,rfl,hW10,hE10⟩
   rw [Ao,hfin.out.2] at hW10
   obtain ⟨A10,n10,c10,rfl⟩:=hW10.form
   replace hWq:=Ac (hWq.out.ext hE10)
   replace hEw:=Ac (hEw.out.trans hE10)
   replace hW10:=Ac hW10
   clear hE10 hW9
   go_wp2_with fail
   refine (DO _ _ _ hWq.out).mono ?_
   rintro e w11 ⟨v11,rfl,hW11,hE11⟩
   rw [AM hR.out.2.2.2.2.1,<-hfin.out.1] at hW11
   obtain ⟨A11,n11,c11,rfl⟩:=hW11.form
   replace hW10:=Ac (hW10.out.ext hE11)
   replace hEw:=Ac (hEw.out.trans hE11)
   replace hW11:=Ac hW11
   clear hE11 hWq
   go_wp2
   go_ret2
   exact ⟨_,_,_,_,_,_,rfl,hW11.out,hW10.out,hEw.out⟩
  .obtain ⟨k, rfl⟩:∃q, k=q+1:=⟨k-1, by omega⟩
   have hq1:((k+1:Nat):Int)-1=k:=by omega
   rw [hq1]
   clear hq1
   obtain ⟨X,post,hx1,hx2,hx3,hx4,hx5,hx6,hx7,hx8⟩:=hR.out.window (by omega) hvl.out sv.out
   replace hx1:=Ac hx1
   replace hx2:=Ac hx2
   replace hx3:=Ac hx3
   replace hx4:=Ac hx4
   replace hx5:=Ac hx5
   replace hx6:=Ac hx6
   replace hx7:=Ac hx7
   replace hx8:=Ac hx8
   have hVo:Hid (∀wz,Only gu wr wz->Words wz (.slice (some ⟨bv,ov,none⟩) (n+1) cv) v):=Ac λwz hO=>hWv.out.old λi hi=>by
    have hig:i<gu:=by rw [<-hgu.out];exact hi
    exact (hO.block i (by have:=Blk.lt hR.out.2.2.1;omega) (by omega)).trans (hR.out.2.2.2.2.2.2.2.2.2.block i hig)
   have hvc:Hid (∀i,i<n+1->wr.cell? ⟨bv,ov+i,none⟩=some (.int .u32 (v.getD i 0:Nat))):=Ac λi hi=>(hVo.out wr (Only.refl _ _)).cellAt (by rw [hvl.out];exact hi)
   go_wp2_with fail
   rw [show k+(n+1)+1-k=n+1+1 by omega]
   refine (WO gu bv ov (n+1) _ _ k (U.take k) post X v wr hx8.out hx3.out hx1.out hvl.out (by omega) (by omega) hx2.out sv.out hvc.out (by omega) hcv htop.out hx4.out).mono ?_
   rintro e w9 ⟨q,rfl,hq,hQ1,hQ2,hE9⟩
   have hqB:q<4294967296:=by rwa [Bb] at hq
   have hO9:Hid (Only gu wr w9):=(Only.refl _ _).ext hE9
   have hW9:=Ac (hx3.out.ext hE9)
   replace hQ1:=Ac hQ1
   replace hQ2:=Ac hQ2
   replace hq:=Ac hq
   clear hvc hE9
   go_wp2_with fail
   refine (Rv gu (n+1+1) _ _ (U.take k) post X v q k w9 hx8.out hW9.out hx1.out (by rw [hvl.out];omega) (by omega) hx2.out sv.out (λwz hO=>hVo.out wz (hO9.out.trans hO)) (by omega) hq.out).mono ?_
   rintro e w10 ⟨X1,rfl,hl1,s1,hW10,hO10,hv1⟩
   replace hO10:=Ac (hO9.out.trans hO10)
   rw [hx1.out] at hl1 hv1
   clear hO9 hW9
   have hqs:(q:Int)%4294967296=(q:Int):=by omega
   by_cases hbig:val X<q*val v
   .have hdb:decide (val X<q*val v)=true:=by simpa using hbig
    rw [if_pos hbig,Nat.mul_one] at hv1
    have hq1:1<=q:=by
     rcases Nat.eq_zero_or_pos q with h | h
     .rw [h,Nat.zero_mul] at hbig;omega
     .exact h
    rw [hdb]
    replace hl1:=Ac hl1
    replace s1:=Ac s1
    replace hW10:=Ac hW10
    replace hv1:=Ac hv1
    replace hbig:=Ac hbig
    clear hdb hqs
    go_wp2_with fail
    refine (Py gu (n+1+1) _ _ (U.take k) post X1 v k w10 hx8.out hW10.out hl1.out (by rw [hvl.out];omega) (by omega) s1.out sv.out (λwz hO=>hVo.out wz (hO10.out.trans hO)) (by omega)).mono ?_
    rintro e w11 ⟨X2,c,rfl,hl2,s2,hW11,hO11,hv2,hc⟩
    replace hO11:=Ac (hO10.out.trans hO11)
    rw [hl1.out] at hl2 hv2
    have hstp:Hid (val X2+(q-1)*val v=val X/\val X2<val v):=by
     have hb2:=CI s2
     rw [hl2] at hb2
     have e1:(q-1)*val v+val v=q*val v:=by
      obtain ⟨a,rfl⟩:∃a,q=a+1:=⟨q-1,by omega⟩
      rw [Nat.add_sub_cancel,Nat.add_mul,Nat.one_mul]
     have h1:=hv1.out
     have h3:=hbig.out
     have h4:=hQ2.out
     have hc1:c=1:=by
      rcases Nat.eq_zero_or_pos c with h | h
      .subst h;omega
      .omega
     subst hc1
     rw [Nat.mul_one] at hv2
     exact ⟨by omega,by omega⟩
    have hBq:Blk w11 gq 108 (wv Q):=(hO11.out.block _ (Blk.lt hR.out.2.2.2.2.2.1) (by omega)).trans hR.out.2.2.2.2.2.1
    have hstc:w11.cell? ⟨gq,k,none⟩=some (.int .u32 (Q.getD k 0:Nat)):=by rw [hBq.cell,Ch (by rw [hR.out.2.2.2.1];omega)]
    have hfz:=hBq.frozen k
    have hstep:=Ac (hR.out.step (by omega) hull.out hx1.out hx6.out hx8.out hx5.out hx7.out hl2 s2 hW11 hO11.out (q:=q-1) (by rw [Bb];omega) hstp.out.1 hstp.out.2 hgq (e:=((q-1:Nat):Int)) rfl)
    obtain ⟨Z,hZ⟩:∃Z,q=Z+1:=⟨q-1,by omega⟩
    have hZ1:((q:Int)-1)=(Z:Int):=by omega
    have hZ2:(Z:Int)%4294967296=(Z:Int):=by omega
    rw [show q-1=Z by omega] at hstep
    clear hl2 s2 hW11 hO11 hv2 hc hBq
    subst hZ
    go_wp2
    exact ⟨⟨k,_,_,by omega,rfl,hstep.out⟩,by simp [intOf]⟩
   .have hdb:decide (val X<q*val v)=false:=by simpa using hbig
    rw [if_neg hbig,Nat.mul_zero,Nat.add_zero] at hv1
    rw [hdb]
    have hltv:val X1<val v:=by
     have hpos:0<val v:=by have:=hx4.out;rcases Nat.eq_zero_or_pos (val v) with h | h;rw [h] at this;omega;exact h
     have h7:val X<(val X/val v+1)*val v:=by
      rw [Nat.mul_comm];exact Nat.lt_mul_div_succ (val X) hpos
     have h8:(val X/val v+1)*val v<=(q+1)*val v:=Nat.mul_le_mul_right _ (by have:=hQ1.out;omega)
     rw [Nat.add_mul q,Nat.one_mul] at h8
     omega
    have hBq:Blk w10 gq 108 (wv Q):=(hO10.out.block _ (Blk.lt hR.out.2.2.2.2.2.1) (by omega)).trans hR.out.2.2.2.2.2.1
    have hstc:w10.cell? ⟨gq,k,none⟩=some (.int .u32 (Q.getD k 0:Nat)):=by rw [hBq.cell,Ch (by rw [hR.out.2.2.2.1];omega)]
    have hfz:=hBq.frozen k
    have hstep:=Ac (hR.out.step (by omega) hull.out hx1.out hx6.out hx8.out hx5.out hx7.out hl1 s1 hW10 hO10.out hq.out hv1 hltv hgq (e:=((q:Nat):Int)) rfl)
    clear hl1 s1 hW10 hO10 hv1 hBq hltv hbig hdb
    go_wp2
    exact ⟨⟨k,_,_,by omega,rfl,hstep.out⟩,by simp [intOf]⟩
theorem Fi(va vb:Value)(x y:Nat)(w:World)(ha:Words w va (Am x))(hb:Words w vb (Am y))(hn:(Am x).length<=4398046511103)(h0:y≠0) :
  Calls Tryz.prog 106 #[va,vb] w (HT x y w):=by
 rcases Nat.lt_or_ge x y with h | h
 .exact Rz va vb x y w ha hb h
 .by_cases h1:(Am y).length=1
  .exact PF va vb x y w ha hb (by omega) h h1
  .have h2:(Am y).length≠0:=λe=>h0 (AT.1 e)
   exact PG va vb x y w ha hb hn h (by omega)
theorem GE(b b':Bool)(A A':Option Addr)(n c n' c':Nat)(x y:Int)(w:World)(h:IsInt w (.bool b) (.slice A n c) x)(h':IsInt w (.bool b') (.slice A' n' c') y)(hn:(Am x.natAbs).length<=4398046511104)(hn':(Am y.natAbs).length<=4398046511104) :
  Calls Tryz.prog 86 #[.agg #[.bool b,.slice A n c],.agg #[.bool b',.slice A' n' c']] w (Dd (x*y) w):=by
 replace h:=Ac h
 replace h':=Ac h'
 replace hn:=Ac hn
 replace hn':=Ac hn'
 go_enter Tryz.func86,Tryz.ntmps86
 go_wp2
 refine wp_region_v (by kernel_rfl) [[], [(5, 0)], [], [(7, 2)], [(6, 1), (8, 3)], [], [(10, 5)], [], [(12, 7)], [(11, 6), (13, 8)], [(9, 4), (14, 9)]] [[], [0], [], [2], [0, 1, 2, 3], [], [5], [], [7], [5, 6, 7, 8], [0, 1, 2, 3, 4, 5, 6, 7, 8, 9]]
  [λv _=>v = .pointer (some ⟨w.heap.size,0,none⟩),λv _=>v = .bool b,λv _=>v = .pointer (some ⟨w.heap.size+1,0,none⟩),λv _=>v = .bool b',λv _=>v = .bool (!(b==b')),λv _=>v = .pointer (some ⟨w.heap.size,1,none⟩),λv _=>v = .slice A n c,λv _=>v = .pointer (some ⟨w.heap.size+1,1,none⟩),λv _=>v = .slice A' n' c',λv w'=>Words w' v (Am (val (Am x.natAbs)*val (Am y.natAbs))),λv w'=>∃b A n c,v = .agg #[.bool b,.slice A n c]/\IsInt w' (.bool b) (.slice A n c) (x*y)]
  rfl (by kernel_rfl) (by kernel_rfl) ?stab ?steps ?fin
 case stab=>exact .cons (Stab.eq _) (.cons (Stab.eq _) (.cons (Stab.eq _) (.cons (Stab.eq _) (.cons (Stab.eq _) (.cons (Stab.eq _) (.cons (Stab.eq _) (.cons (Stab.eq _) (.cons (Stab.eq _) (.cons (λ_ _ _ he h=>h.ext he) (.cons (λ_ _ _ he ⟨b,A,n,c,h1,h2⟩=>⟨b,A,n,c,h1,h2.ext he⟩) .nil))))))))))
 case steps=>
  refine .cons ?s0 (.cons ?s1 (.cons ?s2 (.cons ?s3 (.cons ?s4 (.cons ?s5 (.cons ?s6 (.cons ?s7 (.cons ?s8 (.cons ?s9 (.cons ?s10 .nil))))))))))
  case s0=>
   intro w' ev hE hk ha hc hf
   have e2:ev (.tmp 2) = .pointer (some ⟨w.heap.size,0,none⟩):=ha 2 (by decide)
   exact Ag (by simp [execOp,e2,go_sem]) rfl
  case s1=>
   intro w' ev hE hk ha hc hf
   have e5:ev (.tmp 5) = .pointer (some ⟨w.heap.size,0,none⟩):=hk.1 _ rfl
   have c0:w'.cell? ⟨w.heap.size,0,none⟩=some (.bool b):=hE.cellv (((((Blk.new _ _ _).alloc _).alloc _).drew.cell 0))
   exact Ag (by simp [execOp,e5,c0,go_sem]) rfl
  case s2=>
   intro w' ev hE hk ha hc hf
   have e3:ev (.tmp 3) = .pointer (some ⟨w.heap.size+1,0,none⟩):=ha 3 (by decide)
   exact Ag (by simp [execOp,e3,go_sem]) rfl
  case s3=>
   intro w' ev hE hk ha hc hf
   have e7:ev (.tmp 7) = .pointer (some ⟨w.heap.size+1,0,none⟩):=hk.1 _ rfl
   have c0:w'.cell? ⟨w.heap.size+1,0,none⟩=some (.bool b'):=hE.cellv ((((AW _ _ (by simp)).alloc _).drew.cell 0))
   exact Ag (by simp [execOp,e7,c0,go_sem]) rfl
  case s4=>
   intro w' ev hE hk ha hc hf
   have e6:ev (.tmp 6) = .bool b:=hk.1 _ rfl
   have e8:ev (.tmp 8) = .bool b':=hk.2.1 _ rfl
   exact Ag (by simp [execOp,e6,e8,go_sem]) rfl
  case s5=>
   intro w' ev hE hk ha hc hf
   have e2:ev (.tmp 2) = .pointer (some ⟨w.heap.size,0,none⟩):=ha 2 (by decide)
   exact Ag (by simp [execOp,e2,go_sem]) rfl
  case s6=>
   intro w' ev hE hk ha hc hf
   have e10:ev (.tmp 10) = .pointer (some ⟨w.heap.size,1,none⟩):=hk.1 _ rfl
   have c0:w'.cell? ⟨w.heap.size,1,none⟩=some (.slice A n c):=hE.cellv (((((Blk.new _ _ _).alloc _).alloc _).drew.cell 1))
   exact Ag (by simp [execOp,e10,c0,go_sem]) rfl
  case s7=>
   intro w' ev hE hk ha hc hf
   have e3:ev (.tmp 3) = .pointer (some ⟨w.heap.size+1,0,none⟩):=ha 3 (by decide)
   exact Ag (by simp [execOp,e3,go_sem]) rfl
  case s8=>
   intro w' ev hE hk ha hc hf
   have e12:ev (.tmp 12) = .pointer (some ⟨w.heap.size+1,1,none⟩):=hk.1 _ rfl
   have c0:w'.cell? ⟨w.heap.size+1,1,none⟩=some (.slice A' n' c'):=hE.cellv ((((AW _ _ (by simp)).alloc _).drew.cell 1))
   exact Ag (by simp [execOp,e12,c0,go_sem]) rfl
  case s9=>
   intro w' ev hE hk ha hc hf
   have e11:ev (.tmp 11) = .slice A n c:=hk.1 _ rfl
   have e13:ev (.tmp 13) = .slice A' n' c':=hk.2.1 _ rfl
   refine Aw (by simp [execOp,resolve,invoke,hf,e11,e13,go_sem]) (IR _ _ _ _ _ (h.out.2.ext (((((Ext.refl _).alloc _).alloc _).alloc _).drew.trans hE)) (h'.out.2.ext (((((Ext.refl _).alloc _).alloc _).alloc _).drew.trans hE)) hn.out hn'.out) ?_
   rintro e w1 ⟨v1,rfl,hW1,hE1⟩
   exact ⟨v1,rfl,hE1,hW1⟩
  case s10=>
   intro w' ev hE hk ha hc hf
   have e9:ev (.tmp 9) = .bool (!(b==b')):=hk.1 _ rfl
   have f14:=hk.2.1 _ rfl
   refine Aw (by simp [execOp,resolve,invoke,hf,e9,go_sem]) (Cy (!(b==b')) _ _ _ f14) ?_
   rintro e w1 ⟨b1,A1,n1,k1,rfl,hI1,hE1⟩
   exact ⟨_,rfl,hE1,b1,A1,n1,k1,rfl,by rw [Ao,Ao,Ao,h.out.bool_eq,h'.out.bool_eq,Ue] at hI1;exact hI1⟩
 case fin=>
  intro g w' hE hF
  obtain ⟨b2,A2,n2,k2,e2,hI2⟩:=hF 10 _ rfl
  simp only [List.length_cons,List.length_nil,Nat.reduceAdd,List.drop_succ_cons,List.drop_zero,List.take_succ_cons,List.take_zero,CM,Act.put,List.setIfInBounds_toArray,List.set_cons_succ,List.set_cons_zero,e2]
  clear hF e2
  replace hI2:=Ac hI2
  obtain ⟨hcell,hfr⟩:=hE.cells
  replace hE:=Ac hE
  go_wp2
  refine bodyPost_ret (v:=.agg #[.bool b2,.slice A2 n2 k2]) (by simp [results,Tryz.results86,go_sem,hcell]) rfl ⟨_,_,_,_,rfl,?_,?_⟩
  .have ht:Ty w' (w.heap.size+2) 40:=(Br _ _ (by simp)).drew.ext hE.out
   exact (hI2.out.set ht (by decide) _).set (ht.set _ _) (by decide) _
  .exact ((((((Ext.refl _).alloc _).alloc _).alloc _).drew.trans hE.out).set (by simp<;>omega) _).set (by simp<;>omega) _
theorem WP(b b':Bool)(A A':Option Addr)(n c n' c':Nat)(x y:Int)(w:World)(h:IsInt w (.bool b) (.slice A n c) x)(h':IsInt w (.bool b') (.slice A' n' c') y)(hn:(Am x.natAbs).length<=4398046511104)(hn':(Am y.natAbs).length<=4398046511104)(hb:b=b') :
  Calls Tryz.prog 85 #[.agg #[.bool b,.slice A n c],.agg #[.bool b',.slice A' n' c']] w (Dd (x+y) w):=by
 have hd:=Ac h.bool_eq
 have hd':=Ac h'.bool_eq
 replace h:=Ac h
 replace h':=Ac h'
 replace hn:=Ac hn
 replace hn':=Ac hn'
 have hbb:(b==b')=true:=by simpa using hb
 replace hb:=Ac hb
 go_enter Tryz.func85,Tryz.ntmps85
 go_wp2
 refine wp_region_v (by kernel_rfl) [[], [(10, 0)], [], [(12, 2)], [], [(14, 4)], [(13, 3), (15, 5)], [(11, 1), (16, 6)]] [[], [0], [], [2], [], [4], [2, 3, 4, 5], [0, 1, 2, 3, 4, 5, 6]]
  [λv _=>v = .pointer (some ⟨w.heap.size,0,none⟩),λv _=>v = .bool b,λv _=>v = .pointer (some ⟨w.heap.size,1,none⟩),λv _=>v = .slice A n c,λv _=>v = .pointer (some ⟨w.heap.size+1,1,none⟩),λv _=>v = .slice A' n' c',λv w'=>Words w' v (Am (val (Am x.natAbs)+val (Am y.natAbs))),λv w'=>∃b A n c,v = .agg #[.bool b,.slice A n c]/\IsInt w' (.bool b) (.slice A n c) (x+y)]
  rfl (by kernel_rfl) (by kernel_rfl) ?stab ?steps ?fin
 case stab=>exact .cons (Stab.eq _) (.cons (Stab.eq _) (.cons (Stab.eq _) (.cons (Stab.eq _) (.cons (Stab.eq _) (.cons (Stab.eq _) (.cons (λ_ _ _ he h=>h.ext he) (.cons (λ_ _ _ he ⟨b,A,n,c,h1,h2⟩=>⟨b,A,n,c,h1,h2.ext he⟩) .nil)))))))
 case steps=>
  refine .cons ?s0 (.cons ?s1 (.cons ?s2 (.cons ?s3 (.cons ?s4 (.cons ?s5 (.cons ?s6 (.cons ?s7 .nil)))))))
  case s0=>
   intro w' ev hE hk ha hc hf
   have e2:ev (.tmp 2) = .pointer (some ⟨w.heap.size,0,none⟩):=ha 2 (by decide)
   exact Ag (by simp [execOp,e2,go_sem]) rfl
  case s1=>
   intro w' ev hE hk ha hc hf
   have e10:ev (.tmp 10) = .pointer (some ⟨w.heap.size,0,none⟩):=hk.1 _ rfl
   have c0:w'.cell? ⟨w.heap.size,0,none⟩=some (.bool b):=hE.cellv (((((Blk.new _ _ _).alloc _).alloc _).drew.cell 0))
   exact Ag (by simp [execOp,e10,c0,go_sem]) rfl
  case s2=>
   intro w' ev hE hk ha hc hf
   have e2:ev (.tmp 2) = .pointer (some ⟨w.heap.size,0,none⟩):=ha 2 (by decide)
   exact Ag (by simp [execOp,e2,go_sem]) rfl
  case s3=>
   intro w' ev hE hk ha hc hf
   have e12:ev (.tmp 12) = .pointer (some ⟨w.heap.size,1,none⟩):=hk.1 _ rfl
   have c0:w'.cell? ⟨w.heap.size,1,none⟩=some (.slice A n c):=hE.cellv (((((Blk.new _ _ _).alloc _).alloc _).drew.cell 1))
   exact Ag (by simp [execOp,e12,c0,go_sem]) rfl
  case s4=>
   intro w' ev hE hk ha hc hf
   have e3:ev (.tmp 3) = .pointer (some ⟨w.heap.size+1,0,none⟩):=ha 3 (by decide)
   exact Ag (by simp [execOp,e3,go_sem]) rfl
  case s5=>
   intro w' ev hE hk ha hc hf
   have e14:ev (.tmp 14) = .pointer (some ⟨w.heap.size+1,1,none⟩):=hk.1 _ rfl
   have c0:w'.cell? ⟨w.heap.size+1,1,none⟩=some (.slice A' n' c'):=hE.cellv ((((AW _ _ (by simp)).alloc _).drew.cell 1))
   exact Ag (by simp [execOp,e14,c0,go_sem]) rfl
  case s6=>
   intro w' ev hE hk ha hc hf
   have e13:ev (.tmp 13) = .slice A n c:=hk.1 _ rfl
   have e15:ev (.tmp 15) = .slice A' n' c':=hk.2.1 _ rfl
   refine Aw (by simp [execOp,resolve,invoke,hf,e13,e15,go_sem]) (MP _ _ _ _ _ (h.out.2.ext (((((Ext.refl _).alloc _).alloc _).alloc _).drew.trans hE)) (h'.out.2.ext (((((Ext.refl _).alloc _).alloc _).alloc _).drew.trans hE)) hn.out hn'.out) ?_
   rintro e w1 ⟨v1,rfl,hW1,hE1⟩
   exact ⟨v1,rfl,hE1,hW1⟩
  case s7=>
   intro w' ev hE hk ha hc hf
   have e11:ev (.tmp 11) = .bool b:=hk.1 _ rfl
   have f16:=hk.2.1 _ rfl
   refine Aw (by simp [execOp,resolve,invoke,hf,e11,go_sem]) (Cy b _ _ _ f16) ?_
   rintro e w1 ⟨b1,A1,n1,k1,rfl,hI1,hE1⟩
   exact ⟨_,rfl,hE1,b1,A1,n1,k1,rfl,by have hb:=hb.out;rw [hd.out,hd'.out] at hb;rw [Ao,Ao,Ao,hd.out,Jf hb] at hI1;exact hI1⟩
 case fin=>
  intro g w' hE hF
  obtain ⟨b2,A2,n2,k2,e2,hI2⟩:=hF 7 _ rfl
  simp only [List.length_cons,List.length_nil,Nat.reduceAdd,List.drop_succ_cons,List.drop_zero,List.take_succ_cons,List.take_zero,CM,Act.put,List.setIfInBounds_toArray,List.set_cons_succ,List.set_cons_zero,e2]
  clear hF e2
  replace hI2:=Ac hI2
  obtain ⟨hcell,hfr⟩:=hE.cells
  replace hE:=Ac hE
  go_wp2
  refine bodyPost_ret (v:=.agg #[.bool b2,.slice A2 n2 k2]) (by simp [results,Tryz.results85,go_sem,hcell]) rfl ⟨_,_,_,_,rfl,?_,?_⟩
  .have ht:Ty w' (w.heap.size+2) 40:=(Br _ _ (by simp)).drew.ext hE.out
   exact (hI2.out.set ht (by decide) _).set (ht.set _ _) (by decide) _
  .exact ((((((Ext.refl _).alloc _).alloc _).alloc _).drew.trans hE.out).set (by simp<;>omega) _).set (by simp<;>omega) _
theorem A1a(b b':Bool)(A A':Option Addr)(n c n' c':Nat)(x y:Int)(w:World)(h:IsInt w (.bool b) (.slice A n c) x)(h':IsInt w (.bool b') (.slice A' n' c') y)(hn:(Am x.natAbs).length<=4398046511104)(hn':(Am y.natAbs).length<=4398046511104)(hb:¬b=b')(hle:y.natAbs<=x.natAbs) :
  Calls Tryz.prog 85 #[.agg #[.bool b,.slice A n c],.agg #[.bool b',.slice A' n' c']] w (Dd (x+y) w):=by
 have hd:=Ac h.bool_eq
 have hd':=Ac h'.bool_eq
 replace h:=Ac h
 replace h':=Ac h'
 replace hn:=Ac hn
 replace hn':=Ac hn'
 have hbb:(b==b')=false:=by simpa using hb
 replace hb:=Ac hb
 have hcmp:¬Df x.natAbs y.natAbs<0:=by
  unfold Df
  rw [if_neg (by omega)];split<;>omega
 replace hle:=Ac hle
 go_enter Tryz.func85,Tryz.ntmps85
 go_wp2_with (go_at_call 75;refine (Ds _ _ _ _ _ (h.out.2.ext ((((Ext.refl _).alloc _).alloc _).alloc _)) (h'.out.2.ext ((((Ext.refl _).alloc _).alloc _).alloc _))).mono ?_;rintro e w1 ⟨rfl,hE0⟩;replace hE0:=Ac hE0;obtain ⟨hc0,hf0⟩:=hE0.out.cells)
 refine wp_region_v (by kernel_rfl) [[], [(32, 0)], [], [(34, 2)], [], [(36, 4)], [(35, 3), (37, 5)], [(33, 1), (38, 6)]] [[], [0], [], [2], [], [4], [2, 3, 4, 5], [0, 1, 2, 3, 4, 5, 6]]
  [λv _=>v = .pointer (some ⟨w.heap.size,0,none⟩),λv _=>v = .bool b,λv _=>v = .pointer (some ⟨w.heap.size,1,none⟩),λv _=>v = .slice A n c,λv _=>v = .pointer (some ⟨w.heap.size+1,1,none⟩),λv _=>v = .slice A' n' c',λv w'=>Words w' v (Am (val (Am x.natAbs)-val (Am y.natAbs))),λv w'=>∃b A n c,v = .agg #[.bool b,.slice A n c]/\IsInt w' (.bool b) (.slice A n c) (x+y)]
  rfl (by kernel_rfl) (by kernel_rfl) ?stab ?steps ?fin
 case stab=>exact .cons (Stab.eq _) (.cons (Stab.eq _) (.cons (Stab.eq _) (.cons (Stab.eq _) (.cons (Stab.eq _) (.cons (Stab.eq _) (.cons (λ_ _ _ he h=>h.ext he) (.cons (λ_ _ _ he ⟨b,A,n,c,h1,h2⟩=>⟨b,A,n,c,h1,h2.ext he⟩) .nil)))))))
 case steps=>
  refine .cons ?s0 (.cons ?s1 (.cons ?s2 (.cons ?s3 (.cons ?s4 (.cons ?s5 (.cons ?s6 (.cons ?s7 .nil)))))))
  case s0=>
   intro w' ev hE hk ha hc hf
   have e2:ev (.tmp 2) = .pointer (some ⟨w.heap.size,0,none⟩):=ha 2 (by decide)
   exact Ag (by simp [execOp,e2,go_sem]) rfl
  case s1=>
   intro w' ev hE hk ha hc hf
   have e32:ev (.tmp 32) = .pointer (some ⟨w.heap.size,0,none⟩):=hk.1 _ rfl
   have c0:w'.cell? ⟨w.heap.size,0,none⟩=some (.bool b):=hE.cellv ((hE0.out.cellv (((Blk.new _ _ _).alloc _).alloc _ |>.cell 0)))
   exact Ag (by simp [execOp,e32,c0,go_sem]) rfl
  case s2=>
   intro w' ev hE hk ha hc hf
   have e2:ev (.tmp 2) = .pointer (some ⟨w.heap.size,0,none⟩):=ha 2 (by decide)
   exact Ag (by simp [execOp,e2,go_sem]) rfl
  case s3=>
   intro w' ev hE hk ha hc hf
   have e34:ev (.tmp 34) = .pointer (some ⟨w.heap.size,1,none⟩):=hk.1 _ rfl
   have c0:w'.cell? ⟨w.heap.size,1,none⟩=some (.slice A n c):=hE.cellv ((hE0.out.cellv (((Blk.new _ _ _).alloc _).alloc _ |>.cell 1)))
   exact Ag (by simp [execOp,e34,c0,go_sem]) rfl
  case s4=>
   intro w' ev hE hk ha hc hf
   have e3:ev (.tmp 3) = .pointer (some ⟨w.heap.size+1,0,none⟩):=ha 3 (by decide)
   exact Ag (by simp [execOp,e3,go_sem]) rfl
  case s5=>
   intro w' ev hE hk ha hc hf
   have e36:ev (.tmp 36) = .pointer (some ⟨w.heap.size+1,1,none⟩):=hk.1 _ rfl
   have c0:w'.cell? ⟨w.heap.size+1,1,none⟩=some (.slice A' n' c'):=hE.cellv ((hE0.out.cellv ((AW _ _ (by simp)).alloc _ |>.cell 1)))
   exact Ag (by simp [execOp,e36,c0,go_sem]) rfl
  case s6=>
   intro w' ev hE hk ha hc hf
   have e35:ev (.tmp 35) = .slice A n c:=hk.1 _ rfl
   have e37:ev (.tmp 37) = .slice A' n' c':=hk.2.1 _ rfl
   refine Aw (by simp [execOp,resolve,invoke,hf,e35,e37,go_sem]) (IS _ _ _ _ _ (h.out.2.ext ((((Ext.refl _).alloc _).alloc _).alloc _ |>.trans (hE0.out.trans ((Ext.refl _).drew.trans hE)))) (h'.out.2.ext ((((Ext.refl _).alloc _).alloc _).alloc _ |>.trans (hE0.out.trans ((Ext.refl _).drew.trans hE)))) (by rw [Ao,Ao];exact hle.out) (BI hle.out) hn.out) ?_
   rintro e w1 ⟨v1,rfl,hW1,hE1⟩
   exact ⟨v1,rfl,hE1,hW1⟩
  case s7=>
   intro w' ev hE hk ha hc hf
   have e33:ev (.tmp 33) = .bool b:=hk.1 _ rfl
   have f38:=hk.2.1 _ rfl
   refine Aw (by simp [execOp,resolve,invoke,hf,e33,go_sem]) (Cy b _ _ _ f38) ?_
   rintro e w1 ⟨b1,A1,n1,k1,rfl,hI1,hE1⟩
   exact ⟨_,rfl,hE1,b1,A1,n1,k1,rfl,by have hb:=hb.out;rw [hd.out,hd'.out] at hb;rw [Ao,Ao,Ao,hd.out,LH hb hle.out] at hI1;exact hI1⟩
 case fin=>
  intro g w' hE hF
  obtain ⟨b2,A2,n2,k2,e2,hI2⟩:=hF 7 _ rfl
  simp only [List.length_cons,List.length_nil,Nat.reduceAdd,List.drop_succ_cons,List.drop_zero,List.take_succ_cons,List.take_zero,CM,Act.put,List.setIfInBounds_toArray,List.set_cons_succ,List.set_cons_zero,e2]
  clear hF e2
  replace hI2:=Ac hI2
  replace hE:=hE0.out.trans ((Ext.refl _).drew.trans hE)
  obtain ⟨hcell,hfr⟩:=hE.cells
  replace hE:=Ac hE
  clear hc0 hf0
  go_wp2
  refine bodyPost_ret (v:=.agg #[.bool b2,.slice A2 n2 k2]) (by simp [results,Tryz.results85,go_sem,hcell]) rfl ⟨_,_,_,_,rfl,?_,?_⟩
  .have ht:Ty w' (w.heap.size+2) 40:=(Br _ _ (by simp)).ext hE.out
   exact (hI2.out.set ht (by decide) _).set (ht.set _ _) (by decide) _
  .exact (((((Ext.refl _).alloc _).alloc _).alloc _ |>.trans hE.out).set (by simp<;>omega) _).set (by simp<;>omega) _
theorem A19(b b':Bool)(A A':Option Addr)(n c n' c':Nat)(x y:Int)(w:World)(h:IsInt w (.bool b) (.slice A n c) x)(h':IsInt w (.bool b') (.slice A' n' c') y)(hn:(Am x.natAbs).length<=4398046511104)(hn':(Am y.natAbs).length<=4398046511104)(hb:¬b=b')(hle:x.natAbs<y.natAbs) :
  Calls Tryz.prog 85 #[.agg #[.bool b,.slice A n c],.agg #[.bool b',.slice A' n' c']] w (Dd (x+y) w):=by
 have hd:=Ac h.bool_eq
 have hd':=Ac h'.bool_eq
 replace h:=Ac h
 replace h':=Ac h'
 replace hn:=Ac hn
 replace hn':=Ac hn'
 have hbb:(b==b')=false:=by simpa using hb
 replace hb:=Ac hb
 have hcmp:Df x.natAbs y.natAbs<0:=by
  unfold Df
  rw [if_pos hle];omega
 replace hle:=Ac hle
 go_enter Tryz.func85,Tryz.ntmps85
 go_wp2_with (go_at_call 75;refine (Ds _ _ _ _ _ (h.out.2.ext ((((Ext.refl _).alloc _).alloc _).alloc _)) (h'.out.2.ext ((((Ext.refl _).alloc _).alloc _).alloc _))).mono ?_;rintro e w1 ⟨rfl,hE0⟩;replace hE0:=Ac hE0;obtain ⟨hc0,hf0⟩:=hE0.out.cells)
 refine wp_region_v (by kernel_rfl) [[], [(24, 0)], [], [(26, 2)], [], [(28, 4)], [(27, 3), (29, 5)], [(25, 1), (30, 6)]] [[], [0], [], [2], [], [4], [2, 3, 4, 5], [0, 1, 2, 3, 4, 5, 6]]
  [λv _=>v = .pointer (some ⟨w.heap.size+1,0,none⟩),λv _=>v = .bool b',λv _=>v = .pointer (some ⟨w.heap.size+1,1,none⟩),λv _=>v = .slice A' n' c',λv _=>v = .pointer (some ⟨w.heap.size,1,none⟩),λv _=>v = .slice A n c,λv w'=>Words w' v (Am (val (Am y.natAbs)-val (Am x.natAbs))),λv w'=>∃b A n c,v = .agg #[.bool b,.slice A n c]/\IsInt w' (.bool b) (.slice A n c) (x+y)]
  rfl (by kernel_rfl) (by kernel_rfl) ?stab ?steps ?fin
 case stab=>exact .cons (Stab.eq _) (.cons (Stab.eq _) (.cons (Stab.eq _) (.cons (Stab.eq _) (.cons (Stab.eq _) (.cons (Stab.eq _) (.cons (λ_ _ _ he h=>h.ext he) (.cons (λ_ _ _ he ⟨b,A,n,c,h1,h2⟩=>⟨b,A,n,c,h1,h2.ext he⟩) .nil)))))))
 case steps=>
  refine .cons ?s0 (.cons ?s1 (.cons ?s2 (.cons ?s3 (.cons ?s4 (.cons ?s5 (.cons ?s6 (.cons ?s7 .nil)))))))
  case s0=>
   intro w' ev hE hk ha hc hf
   have e3:ev (.tmp 3) = .pointer (some ⟨w.heap.size+1,0,none⟩):=ha 3 (by decide)
   exact Ag (by simp [execOp,e3,go_sem]) rfl
  case s1=>
   intro w' ev hE hk ha hc hf
   have e24:ev (.tmp 24) = .pointer (some ⟨w.heap.size+1,0,none⟩):=hk.1 _ rfl
   have c0:w'.cell? ⟨w.heap.size+1,0,none⟩=some (.bool b'):=hE.cellv ((hE0.out.cellv ((AW _ _ (by simp)).alloc _ |>.cell 0)))
   exact Ag (by simp [execOp,e24,c0,go_sem]) rfl
  case s2=>
   intro w' ev hE hk ha hc hf
   have e3:ev (.tmp 3) = .pointer (some ⟨w.heap.size+1,0,none⟩):=ha 3 (by decide)
   exact Ag (by simp [execOp,e3,go_sem]) rfl
  case s3=>
   intro w' ev hE hk ha hc hf
   have e26:ev (.tmp 26) = .pointer (some ⟨w.heap.size+1,1,none⟩):=hk.1 _ rfl
   have c0:w'.cell? ⟨w.heap.size+1,1,none⟩=some (.slice A' n' c'):=hE.cellv ((hE0.out.cellv ((AW _ _ (by simp)).alloc _ |>.cell 1)))
   exact Ag (by simp [execOp,e26,c0,go_sem]) rfl
  case s4=>
   intro w' ev hE hk ha hc hf
   have e2:ev (.tmp 2) = .pointer (some ⟨w.heap.size,0,none⟩):=ha 2 (by decide)
   exact Ag (by simp [execOp,e2,go_sem]) rfl
  case s5=>
   intro w' ev hE hk ha hc hf
   have e28:ev (.tmp 28) = .pointer (some ⟨w.heap.size,1,none⟩):=hk.1 _ rfl
   have c0:w'.cell? ⟨w.heap.size,1,none⟩=some (.slice A n c):=hE.cellv ((hE0.out.cellv (((Blk.new _ _ _).alloc _).alloc _ |>.cell 1)))
   exact Ag (by simp [execOp,e28,c0,go_sem]) rfl
  case s6=>
   intro w' ev hE hk ha hc hf
   have e27:ev (.tmp 27) = .slice A' n' c':=hk.1 _ rfl
   have e29:ev (.tmp 29) = .slice A n c:=hk.2.1 _ rfl
   refine Aw (by simp [execOp,resolve,invoke,hf,e27,e29,go_sem]) (IS _ _ _ _ _ (h'.out.2.ext ((((Ext.refl _).alloc _).alloc _).alloc _ |>.trans (hE0.out.trans ((Ext.refl _).drew.trans hE)))) (h.out.2.ext ((((Ext.refl _).alloc _).alloc _).alloc _ |>.trans (hE0.out.trans ((Ext.refl _).drew.trans hE)))) (by rw [Ao,Ao];exact Nat.le_of_lt hle.out) (BI (Nat.le_of_lt hle.out)) hn'.out) ?_
   rintro e w1 ⟨v1,rfl,hW1,hE1⟩
   exact ⟨v1,rfl,hE1,hW1⟩
  case s7=>
   intro w' ev hE hk ha hc hf
   have e25:ev (.tmp 25) = .bool b':=hk.1 _ rfl
   have f30:=hk.2.1 _ rfl
   refine Aw (by simp [execOp,resolve,invoke,hf,e25,go_sem]) (Cy b' _ _ _ f30) ?_
   rintro e w1 ⟨b1,A1,n1,k1,rfl,hI1,hE1⟩
   exact ⟨_,rfl,hE1,b1,A1,n1,k1,rfl,by have hb:=hb.out;rw [hd.out,hd'.out] at hb;rw [Ao,Ao,Ao,hd'.out,LG hb (Nat.le_of_lt hle.out)] at hI1;exact hI1⟩
 case fin=>
  intro g w' hE hF
  obtain ⟨b2,A2,n2,k2,e2,hI2⟩:=hF 7 _ rfl
  simp only [List.length_cons,List.length_nil,Nat.reduceAdd,List.drop_succ_cons,List.drop_zero,List.take_succ_cons,List.take_zero,CM,Act.put,List.setIfInBounds_toArray,List.set_cons_succ,List.set_cons_zero,e2]
  clear hF e2
  replace hI2:=Ac hI2
  replace hE:=hE0.out.trans ((Ext.refl _).drew.trans hE)
  obtain ⟨hcell,hfr⟩:=hE.cells
  replace hE:=Ac hE
  clear hc0 hf0
  go_wp2
  refine bodyPost_ret (v:=.agg #[.bool b2,.slice A2 n2 k2]) (by simp [results,Tryz.results85,go_sem,hcell]) rfl ⟨_,_,_,_,rfl,?_,?_⟩
  .have ht:Ty w' (w.heap.size+2) 40:=(Br _ _ (by simp)).ext hE.out
   exact (hI2.out.set ht (by decide) _).set (ht.set _ _) (by decide) _
  .exact (((((Ext.refl _).alloc _).alloc _).alloc _ |>.trans hE.out).set (by simp<;>omega) _).set (by simp<;>omega) _
theorem RB(b b':Bool)(A A':Option Addr)(n c n' c':Nat)(x y:Int)(w:World)(h:IsInt w (.bool b) (.slice A n c) x)(h':IsInt w (.bool b') (.slice A' n' c') y)(hn:(Am x.natAbs).length<=4398046511104)(hn':(Am y.natAbs).length<=4398046511104) :
  Calls Tryz.prog 85 #[.agg #[.bool b,.slice A n c],.agg #[.bool b',.slice A' n' c']] w (Dd (x+y) w):=by
 by_cases hb:b=b'
 .exact WP b b' A A' n c n' c' x y w h h' hn hn' hb
 .rcases Nat.lt_or_ge x.natAbs y.natAbs with hl | hl
  .exact A19 b b' A A' n c n' c' x y w h h' hn hn' hb hl
  .exact A1a b b' A A' n c n' c' x y w h h' hn hn' hb hl
theorem Nl(b b':Bool)(A A':Option Addr)(n c n' c':Nat)(x y:Int)(w:World)(h:IsInt w (.bool b) (.slice A n c) x)(h':IsInt w (.bool b') (.slice A' n' c') y)(hn:(Am x.natAbs).length<=4398046511103)(hn':(Am y.natAbs).length<=4398046511104)(hy:y≠0)(hc:¬x<0\/x.natAbs%y.natAbs=0) :
  Calls Tryz.prog 134 #[.agg #[.bool b,.slice A n c],.agg #[.bool b',.slice A' n' c']] w (Oj (x/y) (x%y) w):=by
 have hd:=Ac h.bool_eq
 have hd':=Ac h'.bool_eq
 have hq:=Ac (Rg hy hc)
 have hy0:Hid (y.natAbs≠0):=by show _≠0;omega
 have hn1':((n':Int)==0)=false:=by have e:=h'.2.len;have hne:n'≠0:=λe0=>hy0.out (AT.1 (by rw [<-e];exact e0));simpa using hne
 replace h:=Ac h
 replace h':=Ac h'
 replace hn:=Ac hn
 replace hn':=Ac hn'
 replace hc:=Ac hc
 go_enter Tryz.func134,Tryz.ntmps134
 go_wp2_with fail
 refine (Fi _ _ _ _ _ (h.out.2.ext (((((Ext.refl _).alloc _).alloc _).alloc _).alloc _)) (h'.out.2.ext (((((Ext.refl _).alloc _).alloc _).alloc _).alloc _)) hn.out hy0.out).mono ?_
 rintro e w2 ⟨A3,A4,n3,c3,n4,c4,rfl,hW3,hW4,hE2⟩
 have hcond:Hid (b=false\/n4=0):=by
  rcases hc.out with hc | hc
  .left;rw [hd.out];simpa using hc
  .rw [hc] at hW4
   exact .inr (by rw [hW4.len,Bo];rfl)
 replace hE2:=Ac hE2
 obtain ⟨hcell,hfr⟩:=hE2.out.cells
 replace hW3:=Ac hW3
 replace hW4:=Ac hW4
 clear hn1'
 cases b with
 | false=>
  clear hcond
  go_wp2_with fail
  refine (Cy _ _ _ _ hW3.out).mono ?_
  rintro e w3 ⟨b5,A5,n5,c5,rfl,hI5,hE3⟩
  rw [Ao,show b' = !(decide (x<0)==decide (y<0)) by rw [<-hd.out,<-hd'.out];cases b'<;>rfl,<-hq.out.1] at hI5
  replace hW4:=Ac (hW4.out.ext hE3)
  replace hI5:=Ac hI5
  replace hE3:=Ac (hE2.out.trans hE3)
  clear hcell hfr
  obtain ⟨hcell,hfr⟩:=hE3.out.cells
  go_wp2_with fail
  refine (Cy _ _ _ _ hW4.out).mono ?_
  rintro e w4 ⟨b6,A6,n6,c6,rfl,hI6,hE4⟩
  rw [Ao,<-hq.out.2] at hI6
  replace hI5:=Ac (hI5.out.ext hE4)
  replace hI6:=Ac hI6
  replace hE4:=Ac (hE3.out.trans hE4)
  clear hcell hfr
  obtain ⟨hcell,hfr⟩:=hE4.out.cells
  go_wp2
  refine bodyPost_ret (v:=.tuple #[.agg #[.bool b5,.slice A5 n5 c5],.agg #[.bool b6,.slice A6 n6 c6],.int .i64 0]) (by simp [results,Tryz.results134,go_sem,hcell]) rfl ⟨_,_,_,_,_,_,_,_,rfl,?_,?_,?_⟩
  .have ht:Ty w4 (w.heap.size+2) 40:=((Br _ _ (by simp)).alloc _).ext hE4.out
   have ht':Ty w4 (w.heap.size+3) 40:=(Br _ _ (by simp)).ext hE4.out
   exact (((hI5.out.set ht (by decide) _).set (ht.set _ _) (by decide) _).set ((ht'.set _ _).set _ _) (by decide) _).set (((ht'.set _ _).set _ _).set _ _) (by decide) _
  .have ht:Ty w4 (w.heap.size+2) 40:=((Br _ _ (by simp)).alloc _).ext hE4.out
   have ht':Ty w4 (w.heap.size+3) 40:=(Br _ _ (by simp)).ext hE4.out
   exact (((hI6.out.set ht (by decide) _).set (ht.set _ _) (by decide) _).set ((ht'.set _ _).set _ _) (by decide) _).set (((ht'.set _ _).set _ _).set _ _) (by decide) _
  .exact ((((((((Ext.refl _).alloc _).alloc _).alloc _).alloc _).trans hE4.out |>.set (by simp<;>omega) _).set (by simp<;>omega) _).set (by simp<;>omega) _).set (by simp<;>omega) _
 | true=>
  obtain rfl:n4=0:=by
   rcases hcond.out with h0 | h0
   .cases h0
   .exact h0
  clear hcond
  go_wp2_with fail
  refine (Cy _ _ _ _ hW3.out).mono ?_
  rintro e w3 ⟨b5,A5,n5,c5,rfl,hI5,hE3⟩
  rw [Ao,show (!b') = !(decide (x<0)==decide (y<0)) by rw [<-hd.out,<-hd'.out];cases b'<;>rfl,<-hq.out.1] at hI5
  replace hW4:=Ac (hW4.out.ext hE3)
  replace hI5:=Ac hI5
  replace hE3:=Ac (hE2.out.trans hE3)
  clear hcell hfr
  obtain ⟨hcell,hfr⟩:=hE3.out.cells
  go_wp2_with fail
  refine (Cy _ _ _ _ hW4.out).mono ?_
  rintro e w4 ⟨b6,A6,n6,c6,rfl,hI6,hE4⟩
  rw [Ao,<-hq.out.2] at hI6
  replace hI5:=Ac (hI5.out.ext hE4)
  replace hI6:=Ac hI6
  replace hE4:=Ac (hE3.out.trans hE4)
  clear hcell hfr
  obtain ⟨hcell,hfr⟩:=hE4.out.cells
  go_wp2
  refine bodyPost_ret (v:=.tuple #[.agg #[.bool b5,.slice A5 n5 c5],.agg #[.bool b6,.slice A6 n6 c6],.int .i64 0]) (by simp [results,Tryz.results134,go_sem,hcell]) rfl ⟨_,_,_,_,_,_,_,_,rfl,?_,?_,?_⟩
  .have ht:Ty w4 (w.heap.size+2) 40:=((Br _ _ (by simp)).alloc _).ext hE4.out
   have ht':Ty w4 (w.heap.size+3) 40:=(Br _ _ (by simp)).ext hE4.out
   exact (((hI5.out.set ht (by decide) _).set (ht.set _ _) (by decide) _).set ((ht'.set _ _).set _ _) (by decide) _).set (((ht'.set _ _).set _ _).set _ _) (by decide) _
  .have ht:Ty w4 (w.heap.size+2) 40:=((Br _ _ (by simp)).alloc _).ext hE4.out
   have ht':Ty w4 (w.heap.size+3) 40:=(Br _ _ (by simp)).ext hE4.out
   exact (((hI6.out.set ht (by decide) _).set (ht.set _ _) (by decide) _).set ((ht'.set _ _).set _ _) (by decide) _).set (((ht'.set _ _).set _ _).set _ _) (by decide) _
  .exact ((((((((Ext.refl _).alloc _).alloc _).alloc _).alloc _).trans hE4.out |>.set (by simp<;>omega) _).set (by simp<;>omega) _).set (by simp<;>omega) _).set (by simp<;>omega) _
theorem Tf(b b':Bool)(A A':Option Addr)(n c n' c':Nat)(x y:Int)(w:World)(h:IsInt w (.bool b) (.slice A n c) x)(h':IsInt w (.bool b') (.slice A' n' c') y)(hn:(Am x.natAbs).length<=4398046511103)(hn':(Am y.natAbs).length<=4398046511104)(hy:y≠0)(hx:x<0)(hc:x.natAbs%y.natAbs≠0) :
  Calls Tryz.prog 134 #[.agg #[.bool b,.slice A n c],.agg #[.bool b',.slice A' n' c']] w (Oj (x/y) (x%y) w):=by
 have hd:=Ac h.bool_eq
 have hd':=Ac h'.bool_eq
 have hq:=Ac (A1I hy hx hc)
 have hy0:Hid (y.natAbs≠0):=by show _≠0;omega
 have hn1':((n':Int)==0)=false:=by have e:=h'.2.len;have hne:n'≠0:=λe0=>hy0.out (AT.1 (by rw [<-e];exact e0));simpa using hne
 replace h:=Ac h
 replace h':=Ac h'
 replace hn:=Ac hn
 replace hn':=Ac hn'
 replace hc:=Ac hc
 replace hx:=Ac hx
 go_enter Tryz.func134,Tryz.ntmps134
 go_wp2_with fail
 refine (Fi _ _ _ _ _ (h.out.2.ext (((((Ext.refl _).alloc _).alloc _).alloc _).alloc _)) (h'.out.2.ext (((((Ext.refl _).alloc _).alloc _).alloc _).alloc _)) hn.out hy0.out).mono ?_
 rintro e w2 ⟨A3,A4,n3,c3,n4,c4,rfl,hW3,hW4,hE2⟩
 have hn4:0<n4:=by
  rw [hW4.len]
  rcases Nat.eq_zero_or_pos (Am (x.natAbs%y.natAbs)).length with h0 | h0
  .exact absurd (AT.1 h0) hc.out
  .exact h0
 have hqn:Hid ((Am (x.natAbs/y.natAbs)).length<=4398046511104):=Bt (Nat.div_le_self _ _) (Nat.le_succ_of_le hn.out)
 have hrn:Hid (x.natAbs%y.natAbs<=y.natAbs):=Nat.le_of_lt (Nat.mod_lt _ (Nat.pos_of_ne_zero hy0.out))
 replace hE2:=Ac hE2
 obtain ⟨hcell,hfr⟩:=hE2.out.cells
 replace hW3:=Ac hW3
 replace hW4:=Ac hW4
 obtain rfl:b=true:=by rw [hd.out];simpa using hx.out
 have hdn:decide ((0:Int)<n4)=true:=by simp;omega
 clear hn1'
 have hone:Hid (Words (w2.alloc (.cells #[.int .u32 1] 108)) (.slice (some ⟨w2.heap.size,0,none⟩) 1 1) [1]):=Bu (l:=[1]) (c:=1) (Blk.new _ _ _) (λx hx=>by simp at hx;subst hx;exact Fk) (by simp) (by omega)
 go_wp2_with fail
 refine (MP _ _ _ _ _ (hW3.out.ext ((Ext.refl _).alloc _)) hone.out hqn.out (by simp)).mono ?_
 rintro e w3 ⟨v3,rfl,hW5,hE3⟩
 obtain ⟨A5',n5',c5',rfl⟩:=hW5.form
 have hW3:=hW5
 rw [Ao,show val [1]=1 from rfl] at hW3
 clear hW5 hone
 replace hE3:=((Ext.refl _).alloc _).trans hE3
 replace hW4:=Ac (hW4.out.ext hE3)
 replace hE2:=Ac (hE2.out.trans hE3)
 replace hW3:=Ac hW3
 clear hcell hfr hE3
 obtain ⟨hcell,hfr⟩:=hE2.out.cells
 go_wp2_with fail
 refine (IS _ _ _ _ _ (h'.out.2.ext ((((((Ext.refl _).alloc _).alloc _).alloc _).alloc _).trans hE2.out)) hW4.out (by rw [Ao,Ao];exact hrn.out) (BI hrn.out) hn'.out).mono ?_
 rintro e w4 ⟨v4,rfl,hW5,hE3⟩
 obtain ⟨A6',n6',c6',rfl⟩:=hW5.form
 replace hW3:=Ac (hW3.out.ext hE3)
 have hW4:=hW5
 rw [Ao,Ao] at hW4
 clear hW5
 replace hW4:=Ac hW4
 replace hE2:=Ac (hE2.out.trans hE3)
 clear hcell hfr hE3
 obtain ⟨hcell,hfr⟩:=hE2.out.cells
 go_wp2_with fail
 refine (Cy _ _ _ _ hW3.out).mono ?_
 rintro e w5 ⟨b5,A5,n5,c5,rfl,hI5,hE3⟩
 rw [Ao,show (!b') = !(decide (x<0)==decide (y<0)) by rw [<-hd.out,<-hd'.out];cases b'<;>rfl,<-hq.out.1] at hI5
 replace hW4:=Ac (hW4.out.ext hE3)
 replace hI5:=Ac hI5
 replace hE3:=Ac (hE2.out.trans hE3)
 clear hcell hfr
 obtain ⟨hcell,hfr⟩:=hE3.out.cells
 go_wp2_with fail
 refine (Cy _ _ _ _ hW4.out).mono ?_
 rintro e w6 ⟨b6,A6,n6,c6,rfl,hI6,hE4⟩
 rw [Ao,<-hq.out.2] at hI6
 replace hI5:=Ac (hI5.out.ext hE4)
 replace hI6:=Ac hI6
 replace hE4:=Ac (hE3.out.trans hE4)
 clear hcell hfr
 obtain ⟨hcell,hfr⟩:=hE4.out.cells
 go_wp2
 refine bodyPost_ret (v:=.tuple #[.agg #[.bool b5,.slice A5 n5 c5],.agg #[.bool b6,.slice A6 n6 c6],.int .i64 0]) (by simp [results,Tryz.results134,go_sem,hcell]) rfl ⟨_,_,_,_,_,_,_,_,rfl,?_,?_,?_⟩
 .have ht:Ty w6 (w.heap.size+2) 40:=((Br _ _ (by simp)).alloc _).ext hE4.out
  have ht':Ty w6 (w.heap.size+3) 40:=(Br _ _ (by simp)).ext hE4.out
  exact (((hI5.out.set ht (by decide) _).set (ht.set _ _) (by decide) _).set ((ht'.set _ _).set _ _) (by decide) _).set (((ht'.set _ _).set _ _).set _ _) (by decide) _
 .have ht:Ty w6 (w.heap.size+2) 40:=((Br _ _ (by simp)).alloc _).ext hE4.out
  have ht':Ty w6 (w.heap.size+3) 40:=(Br _ _ (by simp)).ext hE4.out
  exact (((hI6.out.set ht (by decide) _).set (ht.set _ _) (by decide) _).set ((ht'.set _ _).set _ _) (by decide) _).set (((ht'.set _ _).set _ _).set _ _) (by decide) _
 .exact ((((((((Ext.refl _).alloc _).alloc _).alloc _).alloc _).trans hE4.out |>.set (by simp<;>omega) _).set (by simp<;>omega) _).set (by simp<;>omega) _).set (by simp<;>omega) _
theorem Ry(b b':Bool)(A A':Option Addr)(n c n' c':Nat)(x y:Int)(w:World)(h:IsInt w (.bool b) (.slice A n c) x)(h':IsInt w (.bool b') (.slice A' n' c') y)(hn:(Am x.natAbs).length<=4398046511103)(hn':(Am y.natAbs).length<=4398046511104)(hy:y≠0) :
  Calls Tryz.prog 134 #[.agg #[.bool b,.slice A n c],.agg #[.bool b',.slice A' n' c']] w (Oj (x/y) (x%y) w):=by
 by_cases hc:¬x<0\/x.natAbs%y.natAbs=0
 .exact Nl b b' A A' n c n' c' x y w h h' hn hn' hy hc
 .exact Tf b b' A A' n c n' c' x y w h h' hn hn' hy (by omega) (by omega)
theorem Rr(b:Bool)(A:Option Addr)(n c:Nat)(z:Int)(w:World)(h:IsInt w (.bool b) (.slice A n c) z) :
  Calls Tryz.prog 93 #[.agg #[.bool b,.slice A n c]] w (Dd (-z) w):=by
 have hd:=Ac h.neg_eq
 replace h:=Ac h
 go_enter Tryz.func93,Tryz.ntmps93
 go_wp2_with fail
 refine (Cy (!b) _ _ _ (h.out.2.ext (((Ext.refl _).alloc _).alloc _))).mono ?_
 rintro e w2 ⟨b2,A2,n2,k2,rfl,hI2,hE2⟩
 rw [Ao,hd.out] at hI2
 replace hI2:=Ac hI2
 obtain ⟨hcell,hfr⟩:=hE2.cells
 replace hE2:=Ac hE2
 go_wp2
 refine bodyPost_ret (v:=.agg #[.bool b2,.slice A2 n2 k2]) (by simp [results,Tryz.results93,go_sem,hcell]) rfl ⟨_,_,_,_,rfl,?_,?_⟩
 .have ht:Ty w2 (w.heap.size+1) 40:=(Br _ _ (by simp)).ext hE2.out
  exact (hI2.out.set ht (by decide) _).set (ht.set _ _) (by decide) _
 .exact ((((Ext.refl _).alloc _).alloc _).trans hE2.out |>.set (by simp<;>omega) _).set (by simp<;>omega) _
theorem GD(b:Bool)(A:Option Addr)(n c:Nat)(z:Int)(w:World)(h:IsInt w (.bool b) (.slice A n c) z) :
  Calls Tryz.prog 38 #[.agg #[.bool b,.slice A n c]] w λe w'=>e = .returned (.int .i64 z.sign)/\Ext w w':=by
 obtain ⟨h1,h2⟩:=h
 have e2:=h2.len
 clear h2
 injection h1 with h1
 cases b with
 | true=>
  have hz:z<0:=by simpa using h1
  clear h1 e2
  go_enter Tryz.func38,Tryz.ntmps38
  go_wp2
  go_ret
  exact ⟨by rw [Int.sign_eq_neg_one_of_neg hz];rfl,(Ext.refl _).alloc _⟩
 | false=>
  have hz:0<=z:=by
   have:¬z<0:=by simpa using h1
   omega
  clear h1
  by_cases h0:z=0
  .subst h0
   obtain rfl:n=0:=by rw [e2];show (Am 0).length=0;rw [Bo];rfl
   clear e2
   go_enter Tryz.func38,Tryz.ntmps38
   go_wp2
   go_ret
   exact ⟨rfl,(Ext.refl _).alloc _⟩
  .have e0:n≠0:=by
    rw [e2]
    intro e
    have:=AT.1 e
    omega
   have hs:Hid (z.sign=1):=Ac (Int.sign_eq_one_of_pos (by omega))
   clear e2 h0 hz
   have hm1:¬(n:Int)<1:=by omega
   have hm2:1<=n:=by omega
   by_cases h1:n=1
   .subst h1
    go_enter Tryz.func38,Tryz.ntmps38
    go_wp2
    go_ret
    exact ⟨by rw [hs.out];rfl,(Ext.refl _).alloc _⟩
   .have hm3:1<n:=by omega
    have hm4:(1:Int)<n:=by omega
    go_enter Tryz.func38,Tryz.ntmps38
    go_wp2
    go_ret
    exact ⟨by rw [hs.out];exact Uk (k:=.i64) (a:=min (n:Int) 1) (b:=1) (by omega),(Ext.refl _).alloc _⟩
theorem ML(z:Int)(w:World)(h0:0<=z)(hm:z<18446744073709551616) :
  Calls Tryz.prog 78 #[.int .u64 z] w λe w'=>∃v',e = .returned v'/\Words w' v' (Am z.toNat)/\Ext w w':=by
 obtain ⟨m,rfl⟩:=Int.eq_ofNat_of_zero_le h0
 rw [Int.toNat_natCast]
 exact FK m w (by omega)
theorem PA(n:Int)(w:World)(h0:-9223372036854775808<=n)(h1:n<=9223372036854775807) :
  Calls Tryz.prog 41 #[.int .i64 n] w λe w'=>Dd n w e w':=by
 by_cases hn:n<0
 .have hd:decide (n<0)=true:=by simpa using hn
  go_enter Tryz.func41,Tryz.ntmps41
  go_wp2_with fail
  rw [show -(n+1)+1 = -n by omega]
  refine (ML _ _ (by omega) (by omega)).mono ?_
  rintro e w1 ⟨v',rfl,hW,hE⟩
  go_wp2_with fail
  refine (Cy _ _ _ _ hW).mono ?_
  rintro e w2 ⟨b0,A0,n0,k0,rfl,hI,hE2⟩
  replace hE2:=hE.trans hE2
  obtain ⟨hcell,hfr⟩:=hE2.cells
  replace hI:=Ac hI
  replace hE2:=Ac hE2
  clear hE hW
  go_wp2
  refine bodyPost_ret (v:=.agg #[.bool b0,.slice A0 n0 k0]) (by simp [results,Tryz.results41,go_sem,hcell]) rfl ⟨_,_,_,_,rfl,?_,?_⟩
  .have ht:=(Ty.new w #[Value.bool false,Value.slice none 0 0] 40).ext hE2.out
   have hI:=hI.out
   rw [Ao,show Ge true (-n).toNat=n by simp [Ge];omega] at hI
   exact (hI.set ht (by decide) _).set (ht.set _ _) (by decide) _
  .exact ((((Ext.refl _).alloc _).trans hE2.out).set (Nat.le_refl _) _).set (Nat.le_refl _) _
 .have hd:decide (n<0)=false:=by simpa using hn
  go_enter Tryz.func41,Tryz.ntmps41
  go_wp2_with fail
  refine (ML _ _ (by omega) (by omega)).mono ?_
  rintro e w1 ⟨v',rfl,hW,hE⟩
  go_wp2_with fail
  refine (Cy _ _ _ _ hW).mono ?_
  rintro e w2 ⟨b0,A0,n0,k0,rfl,hI,hE2⟩
  replace hE2:=hE.trans hE2
  obtain ⟨hcell,hfr⟩:=hE2.cells
  replace hI:=Ac hI
  replace hE2:=Ac hE2
  clear hE hW
  go_wp2
  refine bodyPost_ret (v:=.agg #[.bool b0,.slice A0 n0 k0]) (by simp [results,Tryz.results41,go_sem,hcell]) rfl ⟨_,_,_,_,rfl,?_,?_⟩
  .have ht:=(Ty.new w #[Value.bool false,Value.slice none 0 0] 40).ext hE2.out
   have hI:=hI.out
   rw [Ao,show Ge false n.toNat=n by simp [Ge];omega] at hI
   exact (hI.set ht (by decide) _).set (ht.set _ _) (by decide) _
  .exact ((((Ext.refl _).alloc _).trans hE2.out).set (Nat.le_refl _) _).set (Nat.le_refl _) _
def Zv(l:List Nat)(w:World)(e:Ending)(w':World):Prop:=∃v',e = .returned v'/\Words w' v' l/\Ext w w'
theorem RA(va vb:Value)(x y:Nat)(w:World)(ha:Words w va (Am x))(hb:Words w vb (Am y))(hn:(Am x).length<=4398046511103)(hn':(Am y).length<=4398046511103) :
  Calls Tryz.prog 77 #[va,vb] w (Zv (Am (Nat.gcd x y)) w):=by
 obtain ⟨A,n,c,rfl⟩:=ha.form
 obtain ⟨A',n',c',rfl⟩:=hb.form
 generalize hG:Nat.gcd x y=G at *
 replace hG:=Ac hG
 replace ha:=Ac ha
 replace hb:=Ac hb
 replace hn:=Ac hn
 replace hn':=Ac hn'
 go_enter Tryz.func77,Tryz.ntmps77
 go_wp2
 go_loopg [0,1] (y) (λk X Y wr=>ZW w G 4398046511103 k X Y wr)
 case atStart=>exact ⟨_,_,_,_,_,_,_,_,rfl,rfl,ha.out,hb.out,hG.out,rfl,hn.out,hn'.out,Ext.refl _⟩
 case round=>
  obtain ⟨p,q,A1,A2,n1,c1,n2,c2,rfl,rfl,hW1,hW2,hgc,rfl,hl1,hl2,hEr⟩:=hrel
  clear ha hb
  have en1:=hW1.len
  have en2:=hW2.len
  by_cases hq0:q=0
  .subst hq0
   obtain rfl:n2=0:=by rw [en2,Bo];rfl
   have hp:Hid (p=G):=by show p=G;rw [<-hgc];simp
   replace hW1:=Ac hW1
   replace hEr:=Ac hEr
   clear en1 en2 hgc hW2 hl1 hl2
   go_wp2
   go_ret
   exact ⟨_,rfl,by rw [<-hp.out];exact hW1.out,hEr.out⟩
  .have hn2:0<n2:=by
    rcases Nat.eq_zero_or_pos n2 with h | h
    .exact absurd (AT.1 (by rw [<-en2];exact h)) hq0
    .exact h
   have hdn:decide ((0:Int)<n2)=true:=by simp;omega
   by_cases hs:n1<=2/\n2<=2
   .obtain ⟨hs1,hs2⟩:=hs
    have hd1:decide ((n1:Int)<=2)=true:=by simp;omega
    have hd2:decide ((n2:Int)<=2)=true:=by simp;omega
    have hpB:p<18446744073709551616:=by rw [<-UU];exact DE (by omega)
    have hqB:q<18446744073709551616:=by rw [<-UU];exact DE (by omega)
    have hl1':=Ac (show (Am p).length<=2 by omega)
    have hl2':=Ac (show (Am q).length<=2 by omega)
    replace hW1:=Ac hW1
    replace hW2:=Ac hW2
    replace hgc:=Ac hgc
    replace hEr:=Ac hEr
    replace en1:=Ac en1
    replace en2:=Ac en2
    clear hl1 hl2
    go_wp2_with fail
    refine (KK _ _ _ hW1.out hl1'.out).mono ?_
    rintro e w1 ⟨rfl,rfl⟩
    rw [Ao]
    go_wp2_with fail
    refine (KK _ _ _ hW2.out hl2'.out).mono ?_
    rintro e w1 ⟨rfl,rfl⟩
    rw [Ao]
    go_wp2_with fail
    refine (Rw p q _ hpB hqB).mono ?_
    rintro e w1 ⟨rfl,rfl⟩
    rw [hgc.out]
    have hGB:G<18446744073709551616:=by
     rw [<-hgc.out]
     exact Nat.lt_of_le_of_lt (Nat.gcd_le_right _ (Nat.pos_of_ne_zero hq0)) hqB
    go_wp2_with fail
    refine (FK G _ hGB).mono ?_
    rintro e w2 ⟨v2,rfl,hW,hE2⟩
    replace hW:=Ac hW
    replace hE2:=Ac (hEr.out.trans hE2)
    go_wp2
    go_ret
    exact ⟨_,rfl,hW.out,hE2.out⟩
   .have hlr:Hid ((Am (p%q)).length<=4398046511103):=Bt (Nat.le_of_lt (Nat.mod_lt p (Nat.pos_of_ne_zero hq0))) hl2
    have hlt:p%q<q:=Nat.mod_lt _ (Nat.pos_of_ne_zero hq0)
    have hg2:Hid (Nat.gcd q (p%q)=G):=by rw [<-hgc,Nat.gcd_comm p q,Nat.gcd_rec q p,Nat.gcd_comm];rfl
    replace hW1:=Ac hW1
    replace hW2:=Ac hW2
    replace hgc:=Ac hgc
    replace hEr:=Ac hEr
    replace hl1:=Ac hl1
    replace hl2:=Ac hl2
    replace en1:=Ac en1
    replace en2:=Ac en2
    replace hlt:=Ac hlt
    by_cases hs1:n1<=2
    .have hs2:¬n2<=2:=λh=>hs ⟨hs1,h⟩
     have hd1:decide ((n1:Int)<=2)=true:=by simp;omega
     have hd2:decide ((n2:Int)<=2)=false:=by simp;omega
     replace hs:=Ac hs
     go_wp2_with fail
     refine (Fi _ _ p q _ hW1.out hW2.out hl1.out hq0).mono ?_
     rintro e w1 ⟨A3,A4,n3,c3,n4,c4,rfl,hW3,hW4,hE1⟩
     replace hW2:=Ac (hW2.out.ext hE1)
     replace hE1:=Ac (hEr.out.trans hE1)
     replace hW4:=Ac hW4
     clear hW1 hEr hW3
     go_wp2
     go_roundg (p%q)
     case measure=>exact hlt.out
     case rel=>exact ⟨_,_,_,_,_,_,_,_,rfl,rfl,hW2.out,hW4.out,hg2.out,rfl,hl2.out,hlr.out,hE1.out⟩
    .have hd1:decide ((n1:Int)<=2)=false:=by simp; omega
     replace hs:=Ac hs
     go_wp2_with fail
     refine (Fi _ _ p q _ hW1.out hW2.out hl1.out hq0).mono ?_
     rintro e w1 ⟨A3,A4,n3,c3,n4,c4,rfl,hW3,hW4,hE1⟩
     replace hW2:=Ac (hW2.out.ext hE1)
     replace hE1:=Ac (hEr.out.trans hE1)
     replace hW4:=Ac hW4
     clear hW1 hEr hW3
     go_wp2
     go_roundg (p%q)
     case measure=>exact hlt.out
     case rel=>exact ⟨_,_,_,_,_,_,_,_,rfl,rfl,hW2.out,hW4.out,hg2.out,rfl,hl2.out,hlr.out,hE1.out⟩
theorem MN(b b':Bool)(A A':Option Addr)(n c n' c':Nat)(x y:Int)(w:World)(h:IsInt w (.bool b) (.slice A n c) x)(h':IsInt w (.bool b') (.slice A' n' c') y)(hn:(Am x.natAbs).length<=4398046511103)(hn':(Am y.natAbs).length<=4398046511103) :
  Calls Tryz.prog 40 #[.agg #[.bool b,.slice A n c],.agg #[.bool b',.slice A' n' c']] w (Dd (Nat.gcd x.natAbs y.natAbs) w):=by
 replace h:=Ac h
 replace h':=Ac h'
 replace hn:=Ac hn
 replace hn':=Ac hn'
 go_enter Tryz.func40,Tryz.ntmps40
 go_wp2_with fail
 refine (RA _ _ _ _ _ (h.out.2.ext ((((Ext.refl _).alloc _).alloc _).alloc _)) (h'.out.2.ext ((((Ext.refl _).alloc _).alloc _).alloc _)) hn.out hn'.out).mono ?_
 rintro e w1 ⟨v1,rfl,hW,hE1⟩
 obtain ⟨A1,n1,c1,rfl⟩:=hW.form
 replace hW:=Ac hW
 replace hE1:=Ac hE1
 go_wp2_with fail
 refine (Cy false _ _ _ hW.out).mono ?_
 rintro e w2 ⟨b2,A2,n2,k2,rfl,hI2,hE2⟩
 rw [Ao,show Ge false (Nat.gcd x.natAbs y.natAbs)=((Nat.gcd x.natAbs y.natAbs:Nat):Int) from rfl] at hI2
 replace hE2:=Ac (hE1.out.trans hE2)
 replace hI2:=Ac hI2
 obtain ⟨hcell,hfr⟩:=hE2.out.cells
 go_wp2
 refine bodyPost_ret (v:=.agg #[.bool b2,.slice A2 n2 k2]) (by simp [results,Tryz.results40,go_sem,hcell]) rfl ⟨_,_,_,_,rfl,?_,?_⟩
 .have ht:Ty w2 (w.heap.size+2) 40:=(Br _ _ (by simp)).ext hE2.out
  exact (hI2.out.set ht (by decide) _).set (ht.set _ _) (by decide) _
 .exact (((((Ext.refl _).alloc _).alloc _).alloc _).trans hE2.out |>.set (by simp<;>omega) _).set (by simp<;>omega) _
def Gy(x y:Int):Int:=if y<0 then -(Nat.gcd x.natAbs y.natAbs:Int) else (Nat.gcd x.natAbs y.natAbs:Int)
theorem Li{x y:Int}(hy:y≠0):Gy x y≠0:=by
 have:Nat.gcd x.natAbs y.natAbs≠0:=λh=>by have:=(Nat.gcd_eq_zero_iff.1 h).2;omega
 unfold Gy
 split<;>omega
theorem GO{x y:Int}(hy:y≠0):(Rat.divInt x y).num=x/Gy x y/\((Rat.divInt x y).den:Int)=y/Gy x y:=by
 unfold Gy
 by_cases h:y<0
 .rw [if_pos h,<-Rat.neg_divInt_neg]
  have h1:=Cv (x:=-x) (y:=-y) (by omega)
  rw [Int.natAbs_neg,Int.natAbs_neg] at h1
  have d1:((Nat.gcd x.natAbs y.natAbs:Nat):Int) ∣ x:=Int.ofNat_dvd_left.2 (Nat.gcd_dvd_left _ _)
  have d2:((Nat.gcd x.natAbs y.natAbs:Nat):Int) ∣ y:=Int.ofNat_dvd_left.2 (Nat.gcd_dvd_right _ _)
  rw [h1.1,h1.2,Int.ediv_neg,Int.ediv_neg,Int.neg_ediv_of_dvd d1,Int.neg_ediv_of_dvd d2]
  exact ⟨rfl,rfl⟩
 .rw [if_neg h]
  exact Cv (by omega)
theorem Ju{x y:Int}{N:Nat}(hy:y≠0)(h:(Am y.natAbs).length<=N):(Am (Gy x y).natAbs).length<=N:=by
 refine Bt ?_ h
 have:=Nat.gcd_le_right (m:=x.natAbs) (n:=y.natAbs) (by omega)
 unfold Gy
 split<;>omega
theorem GX(b b':Bool)(A A':Option Addr)(n c n' c':Nat)(x y:Int)(w:World)(h:IsInt w (.bool b) (.slice A n c) x)(h':IsInt w (.bool b') (.slice A' n' c') y)(hn:(Am x.natAbs).length<=4398046511103)(hn':(Am y.natAbs).length<=4398046511104)(hy:y≠0) :
  Calls Tryz.prog 111 #[.agg #[.bool b,.slice A n c],.agg #[.bool b',.slice A' n' c']] w (Dd (x/y) w):=by
 replace h:=Ac h
 replace h':=Ac h'
 go_enter Tryz.func111,Tryz.ntmps111
 go_wp2_with fail
 refine (Ry b b' A A' n c n' c' x y _ (h.out.ext ((((Ext.refl _).alloc _).alloc _).alloc _)) (h'.out.ext ((((Ext.refl _).alloc _).alloc _).alloc _)) hn hn' hy).mono ?_
 rintro e w1 ⟨b5,b6,A5,A6,n5,c5,n6,c6,rfl,hI5,hI6,hE1⟩
 have hcl:=(hE1.alloc (.cells #[.bool b5,.slice A5 n5 c5] 40)).alloc (.cells #[.bool b6,.slice A6 n6 c6] 40)
 obtain ⟨hcell,hfr⟩:=hcl.cells
 have ht:Ty ((w1.alloc (.cells #[.bool b5,.slice A5 n5 c5] 40)).alloc (.cells #[.bool b6,.slice A6 n6 c6] 40)) (w.heap.size+2) 40:=(Br _ _ (by simp)).ext hcl
 replace hI5:=Ac ((hI5.ext ((Ext.refl _).alloc (.cells #[.bool b5,.slice A5 n5 c5] 40))).ext ((Ext.refl _).alloc (.cells #[.bool b6,.slice A6 n6 c6] 40)))
 have x0:((w1.alloc (.cells #[.bool b5,.slice A5 n5 c5] 40)).alloc (.cells #[.bool b6,.slice A6 n6 c6] 40)).cell? ⟨w1.heap.size,0,none⟩=some (.bool b5):=((Blk.new _ _ _).alloc _).cell 0
 have x1:((w1.alloc (.cells #[.bool b5,.slice A5 n5 c5] 40)).alloc (.cells #[.bool b6,.slice A6 n6 c6] 40)).cell? ⟨w1.heap.size,1,none⟩=some (.slice A5 n5 c5):=((Blk.new _ _ _).alloc _).cell 1
 replace hcl:=Ac hcl
 clear hI6 hE1
 go_upto_region 2 with (fail)
 generalize ((w1.alloc (.cells #[.bool b5,.slice A5 n5 c5] 40)).alloc (.cells #[.bool b6,.slice A6 n6 c6] 40))=w2 at *
 generalize w1.heap.size=G at *
 go_wp2
 refine bodyPost_ret (v:=.agg #[.bool b5,.slice A5 n5 c5]) (by simp [results,Tryz.results111,go_sem,hcell]) rfl ⟨_,_,_,_,rfl,?_,?_⟩
 .exact (hI5.out.set ht (by decide) _).set (ht.set _ _) (by decide) _
 .exact ((((((Ext.refl _).alloc _).alloc _).alloc _).trans hcl.out).set (by simp<;>omega) _).set (by simp<;>omega) _
theorem Rt(b b':Bool)(A A':Option Addr)(n c n' c':Nat)(x y:Int)(w:World)(h:IsInt w (.bool b) (.slice A n c) x)(h':IsInt w (.bool b') (.slice A' n' c') y)(hn:(Am x.natAbs).length<=4398046511103)(hn':(Am y.natAbs).length<=4398046511103)(hy0:0<y) :
  Calls Tryz.prog 84 #[.agg #[.bool b,.slice A n c],.agg #[.bool b',.slice A' n' c']] w (ES (Rat.divInt x y) w):=by
 have hy:Hid (y≠0):=by show y≠0;omega
 have hb2:Hid (Blk (((w.alloc (.cells #[.bool b,.slice A n c] 40)).alloc (.cells #[.bool b',.slice A' n' c'] 40)).alloc (.cells #[.bool false,.slice none 0 0,.bool false,.slice none 0 0] 42)) w.heap.size 40 #[.bool b,.slice A n c]):=((Blk.new _ _ _).alloc _).alloc _
 have hb3:Hid (Blk (((w.alloc (.cells #[.bool b,.slice A n c] 40)).alloc (.cells #[.bool b',.slice A' n' c'] 40)).alloc (.cells #[.bool false,.slice none 0 0,.bool false,.slice none 0 0] 42)) (w.heap.size+1) 40 #[.bool b',.slice A' n' c']):=(AW _ _ (by simp)).alloc _
 have hb4:Hid (Blk (((w.alloc (.cells #[.bool b,.slice A n c] 40)).alloc (.cells #[.bool b',.slice A' n' c'] 40)).alloc (.cells #[.bool false,.slice none 0 0,.bool false,.slice none 0 0] 42)) (w.heap.size+2) 42 #[.bool false,.slice none 0 0,.bool false,.slice none 0 0]):=AW _ _ (by simp)
 have hEw:Hid (Ext w (((w.alloc (.cells #[.bool b,.slice A n c] 40)).alloc (.cells #[.bool b',.slice A' n' c'] 40)).alloc (.cells #[.bool false,.slice none 0 0,.bool false,.slice none 0 0] 42))):=(((Ext.refl _).alloc _).alloc _).alloc _
 have hX:=Ac (h.ext hEw.out)
 have hY:=Ac (h'.ext hEw.out)
 clear h h'
 replace hn:=Ac hn
 replace hn':=Ac hn'
 have hlg:Hid (((Nat.gcd x.natAbs y.natAbs:Nat):Int)=Gy x y):=by unfold Gy;rw [if_neg (by omega)];rfl
 have hsg:=Ac (Int.sign_eq_one_of_pos hy0)
 clear hy0
 go_enter Tryz.func84,Tryz.ntmps84
 go_wp2_with fail
 refine (MN b b' A A' n c n' c' x y _ hX.out hY.out hn.out hn'.out).mono ?_
 rintro e w1 ⟨b5,A5,n5,c5,rfl,hI5,hE1⟩
 have hE2:=hE1.alloc (.cells #[.bool b5,.slice A5 n5 c5] 40)
 replace hb2:=Ac (hb2.out.ext hE2)
 replace hb3:=Ac (hb3.out.ext hE2)
 replace hb4:=Ac (hb4.out.ext hE2)
 replace hX:=Ac (hX.out.ext hE2)
 replace hY:=Ac (hY.out.ext hE2)
 replace hEw:=Ac (hEw.out.trans hE2)
 have hG5:=Ac (hI5.ext ((Ext.refl _).alloc (.cells #[.bool b5,.slice A5 n5 c5] 40)))
 have hb5:Hid (Blk (w1.alloc (.cells #[.bool b5,.slice A5 n5 c5] 40)) w1.heap.size 40 #[.bool b5,.slice A5 n5 c5]):=Blk.new _ _ _
 have n54:w.heap.size+2<w1.heap.size:=by have:=hE1.size;simp at this;omega
 clear hE2 hE1 hI5
 go_upto_region 2 with (fail)
 generalize (w1.alloc (.cells #[.bool b5,.slice A5 n5 c5] 40))=w2 at *
 generalize w1.heap.size=G5 at *
 obtain ⟨G2,hG2⟩:∃G2,G2=w.heap.size:=⟨_,rfl⟩
 obtain ⟨G3,hG3⟩:∃G3,G3=w.heap.size+1:=⟨_,rfl⟩
 obtain ⟨G4,hG4⟩:∃G4,G4=w.heap.size+2:=⟨_,rfl⟩
 rw [<-hG4] at hb4 n54 ⊢
 rw [<-hG3] at hb3 ⊢
 rw [<-hG2] at hb2 ⊢
 have k4:w.heap.size<=G4:=by omega
 have k25:G2≠G5:=by omega
 have k35:G3≠G5:=by omega
 have k45:G4≠G5:=by omega
 clear hG2 hG3 hG4
 have q0:w2.cell? ⟨G3,0,none⟩=some (.bool b'):=hb3.out.cell 0
 have q1:w2.cell? ⟨G3,1,none⟩=some (.slice A' n' c'):=hb3.out.cell 1
 go_wp2_with fail
 refine (GD b' A' n' c' y _ hY.out).mono ?_
 rintro e w3 ⟨rfl,hE1⟩
 rw [hsg.out]
 replace hb2:=Ac (hb2.out.ext hE1)
 replace hb3:=Ac (hb3.out.ext hE1)
 replace hb4:=Ac (hb4.out.ext hE1)
 replace hb5:=Ac (hb5.out.ext hE1)
 replace hX:=Ac (hX.out.ext hE1)
 replace hY:=Ac (hY.out.ext hE1)
 replace hG5:=Ac (hG5.out.ext hE1)
 replace hEw:=Ac (hEw.out.trans hE1)
 clear hE1 q0 q1
 rw [hlg.out] at hG5
 go_upto_region 4 with (fail)
 clear hlg hsg
 refine wp_region_v (by kernel_rfl) [[], [], [(14, 0), (15, 1)], [], [], [(17, 3), (18, 4)], [(16, 2), (19, 5)]] [[], [], [0, 1], [], [], [0, 1, 2, 3, 4], [0, 1, 2, 3, 4, 5]]
  [λv _=>v = .agg #[.bool b,.slice A n c],λv _=>v = .agg #[.bool b5,.slice A5 n5 c5],λv w'=>∃b A n c,v = .agg #[.bool b,.slice A n c]/\IsInt w' (.bool b) (.slice A n c) (x/Gy x y),λv _=>v = .agg #[.bool b',.slice A' n' c'],λv _=>v = .agg #[.bool b5,.slice A5 n5 c5],λv w'=>∃b A n c,v = .agg #[.bool b,.slice A n c]/\IsInt w' (.bool b) (.slice A n c) (y/Gy x y),λv w'=>∃b A n c b' A' n' c',v = .agg #[.bool b,.slice A n c,.bool b',.slice A' n' c']/\IsRat w' (.bool b) (.slice A n c) (.bool b') (.slice A' n' c') (Rat.divInt x y)]
  rfl (by kernel_rfl) (by kernel_rfl) ?stab ?steps ?fin
 case stab=>exact .cons (Stab.eq _) (.cons (Stab.eq _) (.cons (λ_ _ _ he ⟨b,A,n,c,h1,h2⟩=>⟨b,A,n,c,h1,h2.ext he⟩) (.cons (Stab.eq _) (.cons (Stab.eq _) (.cons (λ_ _ _ he ⟨b,A,n,c,h1,h2⟩=>⟨b,A,n,c,h1,h2.ext he⟩) (.cons (λ_ _ _ he ⟨b,A,n,c,b',A',n',c',h1,h2⟩=>⟨b,A,n,c,b',A',n',c',h1,h2.ext he⟩) .nil))))))
 case steps=>
  refine .cons ?s0 (.cons ?s1 (.cons ?s2 (.cons ?s3 (.cons ?s4 (.cons ?s5 (.cons ?s6 .nil))))))
  case s0=>
   intro w' ev hE hk ha hc hf
   have e2:ev (.tmp 2) = .pointer (some ⟨G2,0,none⟩):=ha 2 (by decide)
   have c0:w'.cell? ⟨G2,0,none⟩=some (.bool b):=hE.cellv (hb2.out.cell 0)
   have c1:w'.cell? ⟨G2,1,none⟩=some (.slice A n c):=hE.cellv (hb2.out.cell 1)
   exact Ag (by simp [execOp,e2,c0,c1,go_sem]) rfl
  case s1=>
   intro w' ev hE hk ha hc hf
   have e5:ev (.tmp 5) = .pointer (some ⟨G5,0,none⟩):=ha 5 (by decide)
   have c0:w'.cell? ⟨G5,0,none⟩=some (.bool b5):=hE.cellv (hb5.out.cell 0)
   have c1:w'.cell? ⟨G5,1,none⟩=some (.slice A5 n5 c5):=hE.cellv (hb5.out.cell 1)
   exact Ag (by simp [execOp,e5,c0,c1,go_sem]) rfl
  case s2=>
   intro w' ev hE hk ha hc hf
   have e14:ev (.tmp 14) = .agg #[.bool b,.slice A n c]:=hk.1 _ rfl
   have e15:ev (.tmp 15) = .agg #[.bool b5,.slice A5 n5 c5]:=hk.2.1 _ rfl
   refine Aw (by simp [execOp,resolve,invoke,hf,e14,e15,go_sem]) (GX b b5 A A5 n c n5 c5 x (Gy x y) _ (hX.out.ext ((Ext.refl _).drew.trans hE)) (hG5.out.ext ((Ext.refl _).drew.trans hE)) hn.out (Ju hy.out (Nat.le_succ_of_le hn'.out)) (Li hy.out)) ?_
   rintro e w1 ⟨b1,A1,n1,k1,rfl,hI1,hE1⟩
   exact ⟨_,rfl,hE1,b1,A1,n1,k1,rfl,hI1⟩
  case s3=>
   intro w' ev hE hk ha hc hf
   have e3:ev (.tmp 3) = .pointer (some ⟨G3,0,none⟩):=ha 3 (by decide)
   have c0:w'.cell? ⟨G3,0,none⟩=some (.bool b'):=hE.cellv (hb3.out.cell 0)
   have c1:w'.cell? ⟨G3,1,none⟩=some (.slice A' n' c'):=hE.cellv (hb3.out.cell 1)
   exact Ag (by simp [execOp,e3,c0,c1,go_sem]) rfl
  case s4=>
   intro w' ev hE hk ha hc hf
   have e5:ev (.tmp 5) = .pointer (some ⟨G5,0,none⟩):=ha 5 (by decide)
   have c0:w'.cell? ⟨G5,0,none⟩=some (.bool b5):=hE.cellv (hb5.out.cell 0)
   have c1:w'.cell? ⟨G5,1,none⟩=some (.slice A5 n5 c5):=hE.cellv (hb5.out.cell 1)
   exact Ag (by simp [execOp,e5,c0,c1,go_sem]) rfl
  case s5=>
   intro w' ev hE hk ha hc hf
   have e17:ev (.tmp 17) = .agg #[.bool b',.slice A' n' c']:=hk.1 _ rfl
   have e18:ev (.tmp 18) = .agg #[.bool b5,.slice A5 n5 c5]:=hk.2.1 _ rfl
   refine Aw (by simp [execOp,resolve,invoke,hf,e17,e18,go_sem]) (GX b' b5 A' A5 n' c' n5 c5 y (Gy x y) _ (hY.out.ext ((Ext.refl _).drew.trans hE)) (hG5.out.ext ((Ext.refl _).drew.trans hE)) hn'.out (Ju hy.out (Nat.le_succ_of_le hn'.out)) (Li hy.out)) ?_
   rintro e w1 ⟨b1,A1,n1,k1,rfl,hI1,hE1⟩
   exact ⟨_,rfl,hE1,b1,A1,n1,k1,rfl,hI1⟩
  case s6=>
   intro w' ev hE hk ha hc hf
   have f16:=hk.1 _ rfl
   have f19:=hk.2.1 _ rfl
   obtain ⟨b6,A6,n6,c6,e16,hw16⟩:=f16
   obtain ⟨b7,A7,n7,c7,e19,hw19⟩:=f19
   exact Ag (v:=.agg #[.bool b6,.slice A6 n6 c6,.bool b7,.slice A7 n7 c7]) (by simp [execOp,e16,e19,go_sem]) ⟨b6,A6,n6,c6,b7,A7,n7,c7,rfl,by rw [(GO hy.out).1];exact hw16,by rw [(GO hy.out).2];exact hw19⟩
 case fin=>
  intro gf w' hE hF
  obtain ⟨b8,A8,n8,c8',b9,A9,n9,c9,e8,hI8⟩:=hF 6 _ rfl
  replace hE:=Ac ((Ext.refl _).drew.trans hE)
  have hb4':=hb4.out.ext hE.out
  have z0:w'.cell? ⟨G4,0,none⟩=some (.bool false):=hb4'.cell 0
  have z1:w'.cell? ⟨G4,1,none⟩=some (.slice none 0 0):=hb4'.cell 1
  have z2:w'.cell? ⟨G4,2,none⟩=some (.bool false):=hb4'.cell 2
  have z3:w'.cell? ⟨G4,3,none⟩=some (.slice none 0 0):=hb4'.cell 3
  have y0:=hb4'.frozen 0
  have y1:=hb4'.frozen 1
  have y2:=hb4'.frozen 2
  have y3:=hb4'.frozen 3
  have ht:Ty w' G4 42:=hb4'.ty
  simp only [List.length_cons,List.length_nil,Nat.reduceAdd,List.drop_succ_cons,List.drop_zero,List.take_succ_cons,List.take_zero,CM,Act.put,List.setIfInBounds_toArray,List.set_cons_succ,List.set_cons_zero,e8]
  replace hI8:=Ac hI8
  replace hb4':=Ac hb4'
  clear hF e8
  go_wp2
  refine bodyPost_ret (v:=.agg #[.bool b8,.slice A8 n8 c8',.bool b9,.slice A9 n9 c9]) (by simp [results,Tryz.results84,go_sem,z0,z1,z2,z3]) rfl ⟨_,_,_,_,_,_,_,_,rfl,?_,?_⟩
  .exact hI8.out.put4 (b:=G4) ht (by decide) (.bool b8) (.slice A8 n8 c8') (.bool b9) (.slice A9 n9 c9)
  .exact (hEw.out.trans hE.out).put4 (b:=G4) (by omega) (.bool b8) (.slice A8 n8 c8') (.bool b9) (.slice A9 n9 c9)
theorem Ru(b b':Bool)(A A':Option Addr)(n c n' c':Nat)(x y:Int)(w:World)(h:IsInt w (.bool b) (.slice A n c) x)(h':IsInt w (.bool b') (.slice A' n' c') y)(hn:(Am x.natAbs).length<=4398046511103)(hn':(Am y.natAbs).length<=4398046511103)(hy0:y<0) :
  Calls Tryz.prog 84 #[.agg #[.bool b,.slice A n c],.agg #[.bool b',.slice A' n' c']] w (ES (Rat.divInt x y) w):=by
 have hy:Hid (y≠0):=by show y≠0;omega
 have hb2:Hid (Blk (((w.alloc (.cells #[.bool b,.slice A n c] 40)).alloc (.cells #[.bool b',.slice A' n' c'] 40)).alloc (.cells #[.bool false,.slice none 0 0,.bool false,.slice none 0 0] 42)) w.heap.size 40 #[.bool b,.slice A n c]):=((Blk.new _ _ _).alloc _).alloc _
 have hb3:Hid (Blk (((w.alloc (.cells #[.bool b,.slice A n c] 40)).alloc (.cells #[.bool b',.slice A' n' c'] 40)).alloc (.cells #[.bool false,.slice none 0 0,.bool false,.slice none 0 0] 42)) (w.heap.size+1) 40 #[.bool b',.slice A' n' c']):=(AW _ _ (by simp)).alloc _
 have hb4:Hid (Blk (((w.alloc (.cells #[.bool b,.slice A n c] 40)).alloc (.cells #[.bool b',.slice A' n' c'] 40)).alloc (.cells #[.bool false,.slice none 0 0,.bool false,.slice none 0 0] 42)) (w.heap.size+2) 42 #[.bool false,.slice none 0 0,.bool false,.slice none 0 0]):=AW _ _ (by simp)
 have hEw:Hid (Ext w (((w.alloc (.cells #[.bool b,.slice A n c] 40)).alloc (.cells #[.bool b',.slice A' n' c'] 40)).alloc (.cells #[.bool false,.slice none 0 0,.bool false,.slice none 0 0] 42))):=(((Ext.refl _).alloc _).alloc _).alloc _
 have hX:=Ac (h.ext hEw.out)
 have hY:=Ac (h'.ext hEw.out)
 clear h h'
 replace hn:=Ac hn
 replace hn':=Ac hn'
 have hlg:Hid (-((Nat.gcd x.natAbs y.natAbs:Nat):Int)=Gy x y):=by unfold Gy;rw [if_pos hy0];rfl
 have hsg:=Ac (Int.sign_eq_neg_one_of_neg hy0)
 clear hy0
 go_enter Tryz.func84,Tryz.ntmps84
 go_wp2_with fail
 refine (MN b b' A A' n c n' c' x y _ hX.out hY.out hn.out hn'.out).mono ?_
 rintro e w1 ⟨b5,A5,n5,c5,rfl,hI5,hE1⟩
 have hE2:=hE1.alloc (.cells #[.bool b5,.slice A5 n5 c5] 40)
 replace hb2:=Ac (hb2.out.ext hE2)
 replace hb3:=Ac (hb3.out.ext hE2)
 replace hb4:=Ac (hb4.out.ext hE2)
 replace hX:=Ac (hX.out.ext hE2)
 replace hY:=Ac (hY.out.ext hE2)
 replace hEw:=Ac (hEw.out.trans hE2)
 have hG5:=Ac (hI5.ext ((Ext.refl _).alloc (.cells #[.bool b5,.slice A5 n5 c5] 40)))
 have hb5:Hid (Blk (w1.alloc (.cells #[.bool b5,.slice A5 n5 c5] 40)) w1.heap.size 40 #[.bool b5,.slice A5 n5 c5]):=Blk.new _ _ _
 have n54:w.heap.size+2<w1.heap.size:=by have:=hE1.size;simp at this;omega
 clear hE2 hE1 hI5
 go_upto_region 2 with (fail)
 generalize (w1.alloc (.cells #[.bool b5,.slice A5 n5 c5] 40))=w2 at *
 generalize w1.heap.size=G5 at *
 obtain ⟨G2,hG2⟩:∃G2,G2=w.heap.size:=⟨_,rfl⟩
 obtain ⟨G3,hG3⟩:∃G3,G3=w.heap.size+1:=⟨_,rfl⟩
 obtain ⟨G4,hG4⟩:∃G4,G4=w.heap.size+2:=⟨_,rfl⟩
 rw [<-hG4] at hb4 n54 ⊢
 rw [<-hG3] at hb3 ⊢
 rw [<-hG2] at hb2 ⊢
 have k4:w.heap.size<=G4:=by omega
 have k25:G2≠G5:=by omega
 have k35:G3≠G5:=by omega
 have k45:G4≠G5:=by omega
 clear hG2 hG3 hG4
 have q0:w2.cell? ⟨G3,0,none⟩=some (.bool b'):=hb3.out.cell 0
 have q1:w2.cell? ⟨G3,1,none⟩=some (.slice A' n' c'):=hb3.out.cell 1
 go_wp2_with fail
 refine (GD b' A' n' c' y _ hY.out).mono ?_
 rintro e w3 ⟨rfl,hE1⟩
 rw [hsg.out]
 replace hb2:=Ac (hb2.out.ext hE1)
 replace hb3:=Ac (hb3.out.ext hE1)
 replace hb4:=Ac (hb4.out.ext hE1)
 replace hb5:=Ac (hb5.out.ext hE1)
 replace hX:=Ac (hX.out.ext hE1)
 replace hY:=Ac (hY.out.ext hE1)
 replace hG5:=Ac (hG5.out.ext hE1)
 replace hEw:=Ac (hEw.out.trans hE1)
 clear hE1 q0 q1
 have q0:w3.cell? ⟨G5,0,none⟩=some (.bool b5):=hb5.out.cell 0
 have q1:w3.cell? ⟨G5,1,none⟩=some (.slice A5 n5 c5):=hb5.out.cell 1
 go_wp2_with fail
 refine (Rr b5 A5 n5 c5 _ _ hG5.out).mono ?_
 rintro e w4 ⟨b5',A5',n5',c5',rfl,hI5,hE1⟩
 rw [hlg.out] at hI5
 clear hG5 q0 q1
 have ht5:=(hb5.out.ext hE1).ty
 have q0:w4.cell? ⟨G5,0,none⟩=some (.bool b5):=(hb5.out.ext hE1).cell 0
 have q1:w4.cell? ⟨G5,1,none⟩=some (.slice A5 n5 c5):=(hb5.out.ext hE1).cell 1
 have z0:=(hb5.out.ext hE1).frozen 0
 have z1:=(hb5.out.ext hE1).frozen 1
 have hG5:Hid (IsInt (put2 w4 G5 (.bool b5') (.slice A5' n5' c5')) (.bool b5') (.slice A5' n5' c5') (Gy x y)):=hI5.put2 ht5 (by decide) _ _
 replace hX:Hid (IsInt (put2 w4 G5 (.bool b5') (.slice A5' n5' c5')) (.bool b) (.slice A n c) x):=(hX.out.ext hE1).put2 ht5 (by decide) _ _
 replace hY:Hid (IsInt (put2 w4 G5 (.bool b5') (.slice A5' n5' c5')) (.bool b') (.slice A' n' c') y):=(hY.out.ext hE1).put2 ht5 (by decide) _ _
 replace hb2:Hid (Blk (put2 w4 G5 (.bool b5') (.slice A5' n5' c5')) G2 40 #[.bool b,.slice A n c]):=(((hb2.out.ext hE1).far (p:=⟨G5,0,none⟩) k25 _).far (p:=⟨G5,1,none⟩) k25 _)
 replace hb3:Hid (Blk (put2 w4 G5 (.bool b5') (.slice A5' n5' c5')) G3 40 #[.bool b',.slice A' n' c']):=(((hb3.out.ext hE1).far (p:=⟨G5,0,none⟩) k35 _).far (p:=⟨G5,1,none⟩) k35 _)
 replace hb4:Hid (Blk (put2 w4 G5 (.bool b5') (.slice A5' n5' c5')) G4 42 #[.bool false,.slice none 0 0,.bool false,.slice none 0 0]):=(((hb4.out.ext hE1).far (p:=⟨G5,0,none⟩) k45 _).far (p:=⟨G5,1,none⟩) k45 _)
 replace hb5:Hid (Blk (put2 w4 G5 (.bool b5') (.slice A5' n5' c5')) G5 40 #[.bool b5',.slice A5' n5' c5']):=((hb5.out.ext hE1).set 0 _).set 1 _
 replace hEw:Hid (Ext w (put2 w4 G5 (.bool b5') (.slice A5' n5' c5'))):=(hEw.out.trans hE1).put2 (by omega) _ _
 clear hE1 hI5 ht5
 go_upto_region 4 with (fail)
 clear q0 q1 z0 z1
 rw [Uo]
 generalize (put2 w4 G5 (.bool b5') (.slice A5' n5' c5'))=w5 at *
 clear hlg hsg
 refine wp_region_v (by kernel_rfl) [[], [], [(14, 0), (15, 1)], [], [], [(17, 3), (18, 4)], [(16, 2), (19, 5)]] [[], [], [0, 1], [], [], [0, 1, 2, 3, 4], [0, 1, 2, 3, 4, 5]]
  [λv _=>v = .agg #[.bool b,.slice A n c],λv _=>v = .agg #[.bool b5',.slice A5' n5' c5'],λv w'=>∃b A n c,v = .agg #[.bool b,.slice A n c]/\IsInt w' (.bool b) (.slice A n c) (x/Gy x y),λv _=>v = .agg #[.bool b',.slice A' n' c'],λv _=>v = .agg #[.bool b5',.slice A5' n5' c5'],λv w'=>∃b A n c,v = .agg #[.bool b,.slice A n c]/\IsInt w' (.bool b) (.slice A n c) (y/Gy x y),λv w'=>∃b A n c b' A' n' c',v = .agg #[.bool b,.slice A n c,.bool b',.slice A' n' c']/\IsRat w' (.bool b) (.slice A n c) (.bool b') (.slice A' n' c') (Rat.divInt x y)]
  rfl (by kernel_rfl) (by kernel_rfl) ?stab ?steps ?fin
 case stab=>exact .cons (Stab.eq _) (.cons (Stab.eq _) (.cons (λ_ _ _ he ⟨b,A,n,c,h1,h2⟩=>⟨b,A,n,c,h1,h2.ext he⟩) (.cons (Stab.eq _) (.cons (Stab.eq _) (.cons (λ_ _ _ he ⟨b,A,n,c,h1,h2⟩=>⟨b,A,n,c,h1,h2.ext he⟩) (.cons (λ_ _ _ he ⟨b,A,n,c,b',A',n',c',h1,h2⟩=>⟨b,A,n,c,b',A',n',c',h1,h2.ext he⟩) .nil))))))
 case steps=>
  refine .cons ?s0 (.cons ?s1 (.cons ?s2 (.cons ?s3 (.cons ?s4 (.cons ?s5 (.cons ?s6 .nil))))))
  case s0=>
   intro w' ev hE hk ha hc hf
   have e2:ev (.tmp 2) = .pointer (some ⟨G2,0,none⟩):=ha 2 (by decide)
   have c0:w'.cell? ⟨G2,0,none⟩=some (.bool b):=hE.cellv (hb2.out.cell 0)
   have c1:w'.cell? ⟨G2,1,none⟩=some (.slice A n c):=hE.cellv (hb2.out.cell 1)
   exact Ag (by simp [execOp,e2,c0,c1,go_sem]) rfl
  case s1=>
   intro w' ev hE hk ha hc hf
   have e5:ev (.tmp 5) = .pointer (some ⟨G5,0,none⟩):=ha 5 (by decide)
   have c0:w'.cell? ⟨G5,0,none⟩=some (.bool b5'):=hE.cellv (hb5.out.cell 0)
   have c1:w'.cell? ⟨G5,1,none⟩=some (.slice A5' n5' c5'):=hE.cellv (hb5.out.cell 1)
   exact Ag (by simp [execOp,e5,c0,c1,go_sem]) rfl
  case s2=>
   intro w' ev hE hk ha hc hf
   have e14:ev (.tmp 14) = .agg #[.bool b,.slice A n c]:=hk.1 _ rfl
   have e15:ev (.tmp 15) = .agg #[.bool b5',.slice A5' n5' c5']:=hk.2.1 _ rfl
   refine Aw (by simp [execOp,resolve,invoke,hf,e14,e15,go_sem]) (GX b b5' A A5' n c n5' c5' x (Gy x y) _ (hX.out.ext ((Ext.refl _).drew.trans hE)) (hG5.out.ext ((Ext.refl _).drew.trans hE)) hn.out (Ju hy.out (Nat.le_succ_of_le hn'.out)) (Li hy.out)) ?_
   rintro e w1 ⟨b1,A1,n1,k1,rfl,hI1,hE1⟩
   exact ⟨_,rfl,hE1,b1,A1,n1,k1,rfl,hI1⟩
  case s3=>
   intro w' ev hE hk ha hc hf
   have e3:ev (.tmp 3) = .pointer (some ⟨G3,0,none⟩):=ha 3 (by decide)
   have c0:w'.cell? ⟨G3,0,none⟩=some (.bool b'):=hE.cellv (hb3.out.cell 0)
   have c1:w'.cell? ⟨G3,1,none⟩=some (.slice A' n' c'):=hE.cellv (hb3.out.cell 1)
   exact Ag (by simp [execOp,e3,c0,c1,go_sem]) rfl
  case s4=>
   intro w' ev hE hk ha hc hf
   have e5:ev (.tmp 5) = .pointer (some ⟨G5,0,none⟩):=ha 5 (by decide)
   have c0:w'.cell? ⟨G5,0,none⟩=some (.bool b5'):=hE.cellv (hb5.out.cell 0)
   have c1:w'.cell? ⟨G5,1,none⟩=some (.slice A5' n5' c5'):=hE.cellv (hb5.out.cell 1)
   exact Ag (by simp [execOp,e5,c0,c1,go_sem]) rfl
  case s5=>
   intro w' ev hE hk ha hc hf
   have e17:ev (.tmp 17) = .agg #[.bool b',.slice A' n' c']:=hk.1 _ rfl
   have e18:ev (.tmp 18) = .agg #[.bool b5',.slice A5' n5' c5']:=hk.2.1 _ rfl
   refine Aw (by simp [execOp,resolve,invoke,hf,e17,e18,go_sem]) (GX b' b5' A' A5' n' c' n5' c5' y (Gy x y) _ (hY.out.ext ((Ext.refl _).drew.trans hE)) (hG5.out.ext ((Ext.refl _).drew.trans hE)) hn'.out (Ju hy.out (Nat.le_succ_of_le hn'.out)) (Li hy.out)) ?_
   rintro e w1 ⟨b1,A1,n1,k1,rfl,hI1,hE1⟩
   exact ⟨_,rfl,hE1,b1,A1,n1,k1,rfl,hI1⟩
  case s6=>
   intro w' ev hE hk ha hc hf
   have f16:=hk.1 _ rfl
   have f19:=hk.2.1 _ rfl
   obtain ⟨b6,A6,n6,c6,e16,hw16⟩:=f16
   obtain ⟨b7,A7,n7,c7,e19,hw19⟩:=f19
   exact Ag (v:=.agg #[.bool b6,.slice A6 n6 c6,.bool b7,.slice A7 n7 c7]) (by simp [execOp,e16,e19,go_sem]) ⟨b6,A6,n6,c6,b7,A7,n7,c7,rfl,by rw [(GO hy.out).1];exact hw16,by rw [(GO hy.out).2];exact hw19⟩
 case fin=>
  intro gf w' hE hF
  obtain ⟨b8,A8,n8,c8',b9,A9,n9,c9,e8,hI8⟩:=hF 6 _ rfl
  replace hE:=Ac ((Ext.refl _).drew.trans hE)
  have hb4':=hb4.out.ext hE.out
  have z0:w'.cell? ⟨G4,0,none⟩=some (.bool false):=hb4'.cell 0
  have z1:w'.cell? ⟨G4,1,none⟩=some (.slice none 0 0):=hb4'.cell 1
  have z2:w'.cell? ⟨G4,2,none⟩=some (.bool false):=hb4'.cell 2
  have z3:w'.cell? ⟨G4,3,none⟩=some (.slice none 0 0):=hb4'.cell 3
  have y0:=hb4'.frozen 0
  have y1:=hb4'.frozen 1
  have y2:=hb4'.frozen 2
  have y3:=hb4'.frozen 3
  have ht:Ty w' G4 42:=hb4'.ty
  simp only [List.length_cons,List.length_nil,Nat.reduceAdd,List.drop_succ_cons,List.drop_zero,List.take_succ_cons,List.take_zero,CM,Act.put,List.setIfInBounds_toArray,List.set_cons_succ,List.set_cons_zero,e8]
  replace hI8:=Ac hI8
  replace hb4':=Ac hb4'
  clear hF e8
  go_wp2
  refine bodyPost_ret (v:=.agg #[.bool b8,.slice A8 n8 c8',.bool b9,.slice A9 n9 c9]) (by simp [results,Tryz.results84,go_sem,z0,z1,z2,z3]) rfl ⟨_,_,_,_,_,_,_,_,rfl,?_,?_⟩
  .exact hI8.out.put4 (b:=G4) ht (by decide) (.bool b8) (.slice A8 n8 c8') (.bool b9) (.slice A9 n9 c9)
  .exact (hEw.out.trans hE.out).put4 (b:=G4) (by omega) (.bool b8) (.slice A8 n8 c8') (.bool b9) (.slice A9 n9 c9)
theorem FZ(b b':Bool)(A A':Option Addr)(n c n' c':Nat)(x y:Int)(w:World)(h:IsInt w (.bool b) (.slice A n c) x)(h':IsInt w (.bool b') (.slice A' n' c') y)(hn:(Am x.natAbs).length<=4398046511103)(hn':(Am y.natAbs).length<=4398046511103)(hy:y≠0) :
  Calls Tryz.prog 84 #[.agg #[.bool b,.slice A n c],.agg #[.bool b',.slice A' n' c']] w (ES (Rat.divInt x y) w):=by
 by_cases h0:y<0
 .exact Ru b b' A A' n c n' c' x y w h h' hn hn' h0
 .exact Rt b b' A A' n c n' c' x y w h h' hn hn' (by omega)
theorem SF(p q:Rat):p*q=Rat.divInt (p.num*q.num) ((p.den:Int)*q.den):=by
 rw [Rat.mul_def,Rat.normalize_eq_mkRat]
 have:((p.den:Int)*q.den)=((p.den*q.den:Nat):Int):=by simp
 rw [this];rfl
theorem Tg(z:Int)(w:World)(h0:-9223372036854775808<=z)(h1:z<=9223372036854775807) :
  Calls Tryz.prog 19 #[.int .i64 z] w (ES (z:Rat) w):=by
 have hb4:Hid (Blk (w.alloc (.cells #[.bool false,.slice none 0 0,.bool false,.slice none 0 0] 42)) w.heap.size 42 #[.bool false,.slice none 0 0,.bool false,.slice none 0 0]):=Blk.new _ _ _
 have hEw:Hid (Ext w (w.alloc (.cells #[.bool false,.slice none 0 0,.bool false,.slice none 0 0] 42))):=(Ext.refl _).alloc _
 go_enter Tryz.func19,Tryz.ntmps19
 go_wp2_with fail
 generalize (w.alloc (.cells #[.bool false,.slice none 0 0,.bool false,.slice none 0 0] 42))=wa at *
 refine (PA z _ h0 h1).mono ?_
 rintro e w1 ⟨b8,A8,n8,c8',rfl,hI1,hE1⟩
 replace hb4:=Ac (hb4.out.ext hE1)
 replace hEw:=Ac (hEw.out.trans hE1)
 replace hI1:=Ac hI1
 clear hE1
 go_wp2_with fail
 refine (PA 1 _ (by omega) (by omega)).mono ?_
 rintro e w2 ⟨b9,A9,n9,c9,rfl,hI2,hE1⟩
 replace hb4:=Ac (hb4.out.ext hE1)
 replace hEw:=Ac (hEw.out.trans hE1)
 replace hI1:=Ac (hI1.out.ext hE1)
 replace hI2:=Ac hI2
 clear hE1
 have z0:w2.cell? ⟨w.heap.size,0,none⟩=some (.bool false):=hb4.out.cell 0
 have z1:w2.cell? ⟨w.heap.size,1,none⟩=some (.slice none 0 0):=hb4.out.cell 1
 have z2:w2.cell? ⟨w.heap.size,2,none⟩=some (.bool false):=hb4.out.cell 2
 have z3:w2.cell? ⟨w.heap.size,3,none⟩=some (.slice none 0 0):=hb4.out.cell 3
 have y0:=hb4.out.frozen 0
 have y1:=hb4.out.frozen 1
 have y2:=hb4.out.frozen 2
 have y3:=hb4.out.frozen 3
 have ht:Ty w2 w.heap.size 42:=hb4.out.ty
 have hI:Hid (IsRat w2 (.bool b8) (.slice A8 n8 c8') (.bool b9) (.slice A9 n9 c9) (z:Rat)):=⟨hI1.out,hI2.out⟩
 clear hI1 hI2
 go_wp2
 refine bodyPost_ret (v:=.agg #[.bool b8,.slice A8 n8 c8',.bool b9,.slice A9 n9 c9]) (by simp [results,Tryz.results19,go_sem,z0,z1,z2,z3]) rfl ⟨_,_,_,_,_,_,_,_,rfl,?_,?_⟩
 .exact hI.out.put4 (b:=w.heap.size) ht (by decide) (.bool b8) (.slice A8 n8 c8') (.bool b9) (.slice A9 n9 c9)
 .exact hEw.out.put4 (b:=w.heap.size) (by omega) (.bool b8) (.slice A8 n8 c8') (.bool b9) (.slice A9 n9 c9)
theorem WQ(b b':Bool)(A A':Option Addr)(n c n' c':Nat)(p:Rat)(w:World)(h:IsRat w (.bool b) (.slice A n c) (.bool b') (.slice A' n' c') p) :
  Calls Tryz.prog 11 #[.agg #[.bool b,.slice A n c,.bool b',.slice A' n' c']] w (λe w'=>e = .returned (.int .i64 p.num.sign)/\Ext w w'):=by
 replace h:=Ac h
 go_enter Tryz.func11,Tryz.ntmps11
 go_wp2_with fail
 refine (GD b A n c _ _ (h.out.1.ext ((Ext.refl _).alloc _))).mono ?_
 rintro e w1 ⟨rfl,hE1⟩
 replace hE1:=Ac hE1
 go_wp2
 go_ret
 exact ⟨rfl,((Ext.refl _).alloc _).trans hE1.out⟩
theorem ZD(b b':Bool)(A A':Option Addr)(n c n' c':Nat)(p:Rat)(w:World)(h:IsRat w (.bool b) (.slice A n c) (.bool b') (.slice A' n' c') p) :
  Calls Tryz.prog 68 #[.agg #[.bool b,.slice A n c,.bool b',.slice A' n' c']] w (ES (-p) w):=by
 have hb2:Hid (Blk ((w.alloc (.cells #[.bool b,.slice A n c,.bool b',.slice A' n' c'] 42)).alloc (.cells #[.bool false,.slice none 0 0,.bool false,.slice none 0 0] 42)) w.heap.size 42 #[.bool b,.slice A n c,.bool b',.slice A' n' c']):=(Blk.new _ _ _).alloc _
 have hb4:Hid (Blk ((w.alloc (.cells #[.bool b,.slice A n c,.bool b',.slice A' n' c'] 42)).alloc (.cells #[.bool false,.slice none 0 0,.bool false,.slice none 0 0] 42)) (w.heap.size+1) 42 #[.bool false,.slice none 0 0,.bool false,.slice none 0 0]):=AW _ _ (by simp)
 have hEw:Hid (Ext w ((w.alloc (.cells #[.bool b,.slice A n c,.bool b',.slice A' n' c'] 42)).alloc (.cells #[.bool false,.slice none 0 0,.bool false,.slice none 0 0] 42))):=((Ext.refl _).alloc _).alloc _
 have hX:=Ac (h.ext hEw.out)
 clear h
 go_enter Tryz.func68,Tryz.ntmps68
 go_upto_region 1 with (fail)
 generalize ((w.alloc (.cells #[.bool b,.slice A n c,.bool b',.slice A' n' c'] 42)).alloc (.cells #[.bool false,.slice none 0 0,.bool false,.slice none 0 0] 42))=wq at *
 obtain ⟨G2,hG2⟩:∃G2,G2=w.heap.size:=⟨_,rfl⟩
 obtain ⟨G4,hG4⟩:∃G4,G4=w.heap.size+1:=⟨_,rfl⟩
 rw [<-hG4] at hb4 ⊢
 rw [<-hG2] at hb2 ⊢
 have k4:w.heap.size<=G4:=by omega
 clear hG2 hG4
 refine wp_region_v (by kernel_rfl) [[], [(3, 0)], [(4, 1)], [], [(6, 3)], [(5, 2), (7, 4)]] [[], [0], [0, 1], [], [3], [0, 1, 2, 3, 4]]
  [λv _=>v = .pointer (some ⟨G2,0,none⟩),λv _=>v = .agg #[.bool b,.slice A n c],λv w'=>∃b A n c,v = .agg #[.bool b,.slice A n c]/\IsInt w' (.bool b) (.slice A n c) (-p.num),λv _=>v = .pointer (some ⟨G2,2,none⟩),λv _=>v = .agg #[.bool b',.slice A' n' c'],λv w'=>∃b A n c b' A' n' c',v = .agg #[.bool b,.slice A n c,.bool b',.slice A' n' c']/\IsRat w' (.bool b) (.slice A n c) (.bool b') (.slice A' n' c') (-p)]
  rfl (by kernel_rfl) (by kernel_rfl) ?stab ?steps ?fin
 case stab=>exact .cons (Stab.eq _) (.cons (Stab.eq _) (.cons (λ_ _ _ he ⟨b,A,n,c,h1,h2⟩=>⟨b,A,n,c,h1,h2.ext he⟩) (.cons (Stab.eq _) (.cons (Stab.eq _) (.cons (λ_ _ _ he ⟨b,A,n,c,b',A',n',c',h1,h2⟩=>⟨b,A,n,c,b',A',n',c',h1,h2.ext he⟩) .nil)))))
 case steps=>
  refine .cons ?s0 (.cons ?s1 (.cons ?s2 (.cons ?s3 (.cons ?s4 (.cons ?s5 .nil)))))
  case s0=>
   intro w' ev hE hk ha hc hf
   have e1:ev (.tmp 1) = .pointer (some ⟨G2,0,none⟩):=ha 1 (by decide)
   exact Ag (by simp [execOp,e1,go_sem]) rfl
  case s1=>
   intro w' ev hE hk ha hc hf
   have e3:ev (.tmp 3) = .pointer (some ⟨G2,0,none⟩):=hk.1 _ rfl
   have c0:w'.cell? ⟨G2,0,none⟩=some (.bool b):=hE.cellv ((hb2.out.cell 0))
   have c1:w'.cell? ⟨G2,1,none⟩=some (.slice A n c):=hE.cellv ((hb2.out.cell 1))
   exact Ag (by simp [execOp,e3,c0,c1,go_sem]) rfl
  case s2=>
   intro w' ev hE hk ha hc hf
   have e4:ev (.tmp 4) = .agg #[.bool b,.slice A n c]:=hk.1 _ rfl
   refine Aw (by simp [execOp,resolve,invoke,hf,e4,go_sem]) (Rr b A n c _ _ (hX.out.1.ext ((Ext.refl _).drew.trans hE))) ?_
   rintro e w1 ⟨b1,A1,n1,k1,rfl,hI1,hE1⟩
   exact ⟨_,rfl,hE1,b1,A1,n1,k1,rfl,hI1⟩
  case s3=>
   intro w' ev hE hk ha hc hf
   have e1:ev (.tmp 1) = .pointer (some ⟨G2,0,none⟩):=ha 1 (by decide)
   exact Ag (by simp [execOp,e1,go_sem]) rfl
  case s4=>
   intro w' ev hE hk ha hc hf
   have e6:ev (.tmp 6) = .pointer (some ⟨G2,2,none⟩):=hk.1 _ rfl
   have c0:w'.cell? ⟨G2,2,none⟩=some (.bool b'):=hE.cellv ((hb2.out.cell 2))
   have c1:w'.cell? ⟨G2,3,none⟩=some (.slice A' n' c'):=hE.cellv ((hb2.out.cell 3))
   exact Ag (by simp [execOp,e6,c0,c1,go_sem]) rfl
  case s5=>
   intro w' ev hE hk ha hc hf
   have f5:=hk.1 _ rfl
   have e7:ev (.tmp 7) = .agg #[.bool b',.slice A' n' c']:=hk.2.1 _ rfl
   obtain ⟨b6,A6,n6,c6,e5,hw5⟩:=f5
   exact Ag (v:=.agg #[.bool b6,.slice A6 n6 c6,.bool b',.slice A' n' c']) (by simp [execOp,e5,e7,go_sem]) ⟨b6,A6,n6,c6,_,_,_,_,rfl,hw5,hX.out.2.ext ((Ext.refl _).drew.trans hE)⟩
 case fin=>
  intro gf w' hE hF
  obtain ⟨b8,A8,n8,c8',b9,A9,n9,c9,e8,hI8⟩:=hF 5 _ rfl
  replace hE:=Ac ((Ext.refl _).drew.trans hE)
  have hb4':=hb4.out.ext hE.out
  have z0:w'.cell? ⟨G4,0,none⟩=some (.bool false):=hb4'.cell 0
  have z1:w'.cell? ⟨G4,1,none⟩=some (.slice none 0 0):=hb4'.cell 1
  have z2:w'.cell? ⟨G4,2,none⟩=some (.bool false):=hb4'.cell 2
  have z3:w'.cell? ⟨G4,3,none⟩=some (.slice none 0 0):=hb4'.cell 3
  have y0:=hb4'.frozen 0
  have y1:=hb4'.frozen 1
  have y2:=hb4'.frozen 2
  have y3:=hb4'.frozen 3
  have ht:Ty w' G4 42:=hb4'.ty
  simp only [List.length_cons,List.length_nil,Nat.reduceAdd,List.drop_succ_cons,List.drop_zero,List.take_succ_cons,List.take_zero,CM,Act.put,List.setIfInBounds_toArray,List.set_cons_succ,List.set_cons_zero,e8]
  replace hI8:=Ac hI8
  replace hb4':=Ac hb4'
  clear hF e8
  go_wp2
  refine bodyPost_ret (v:=.agg #[.bool b8,.slice A8 n8 c8',.bool b9,.slice A9 n9 c9]) (by simp [results,Tryz.results68,go_sem,z0,z1,z2,z3]) rfl ⟨_,_,_,_,_,_,_,_,rfl,?_,?_⟩
  .exact hI8.out.put4 (b:=G4) ht (by decide) (.bool b8) (.slice A8 n8 c8') (.bool b9) (.slice A9 n9 c9)
  .exact (hEw.out.trans hE.out).put4 (b:=G4) (by omega) (.bool b8) (.slice A8 n8 c8') (.bool b9) (.slice A9 n9 c9)
theorem ZE(b b':Bool)(A A':Option Addr)(n c n' c':Nat)(d d':Bool)(E E':Option Addr)(m k m' k':Nat)(p q:Rat)(N M:Nat)(w:World)(h:IsRat w (.bool b) (.slice A n c) (.bool b') (.slice A' n' c') p)(h':IsRat w (.bool d) (.slice E m k) (.bool d') (.slice E' m' k') q)(hp:RSz p N)(hq:RSz q M)(hN:N+M<=4398046511103) :
  Calls Tryz.prog 87 #[.agg #[.bool b,.slice A n c,.bool b',.slice A' n' c'],.agg #[.bool d,.slice E m k,.bool d',.slice E' m' k']] w (ES (p*q) w):=by
 have hb2:Hid (Blk (((w.alloc (.cells #[.bool b,.slice A n c,.bool b',.slice A' n' c'] 42)).alloc (.cells #[.bool d,.slice E m k,.bool d',.slice E' m' k'] 42)).alloc (.cells #[.bool false,.slice none 0 0,.bool false,.slice none 0 0] 42)) w.heap.size 42 #[.bool b,.slice A n c,.bool b',.slice A' n' c']):=((Blk.new _ _ _).alloc _).alloc _
 have hb3:Hid (Blk (((w.alloc (.cells #[.bool b,.slice A n c,.bool b',.slice A' n' c'] 42)).alloc (.cells #[.bool d,.slice E m k,.bool d',.slice E' m' k'] 42)).alloc (.cells #[.bool false,.slice none 0 0,.bool false,.slice none 0 0] 42)) (w.heap.size+1) 42 #[.bool d,.slice E m k,.bool d',.slice E' m' k']):=(AW _ _ (by simp)).alloc _
 have hb4:Hid (Blk (((w.alloc (.cells #[.bool b,.slice A n c,.bool b',.slice A' n' c'] 42)).alloc (.cells #[.bool d,.slice E m k,.bool d',.slice E' m' k'] 42)).alloc (.cells #[.bool false,.slice none 0 0,.bool false,.slice none 0 0] 42)) (w.heap.size+2) 42 #[.bool false,.slice none 0 0,.bool false,.slice none 0 0]):=AW _ _ (by simp)
 have hEw:Hid (Ext w (((w.alloc (.cells #[.bool b,.slice A n c,.bool b',.slice A' n' c'] 42)).alloc (.cells #[.bool d,.slice E m k,.bool d',.slice E' m' k'] 42)).alloc (.cells #[.bool false,.slice none 0 0,.bool false,.slice none 0 0] 42))):=(((Ext.refl _).alloc _).alloc _).alloc _
 have hX:=Ac (h.ext hEw.out)
 have hY:=Ac (h'.ext hEw.out)
 clear h h'
 have l1:=Ac hp.1
 have l2:=Ac (Cs p hp)
 have l3:=Ac hq.1
 have l4:=Ac (Cs q hq)
 have l5:=Ac (BZ l1.out l3.out)
 have l6:=Ac (BZ l2.out l4.out)
 replace hp:=Ac hp
 replace hq:=Ac hq
 go_enter Tryz.func87,Tryz.ntmps87
 go_upto_region 1 with (fail)
 generalize (((w.alloc (.cells #[.bool b,.slice A n c,.bool b',.slice A' n' c'] 42)).alloc (.cells #[.bool d,.slice E m k,.bool d',.slice E' m' k'] 42)).alloc (.cells #[.bool false,.slice none 0 0,.bool false,.slice none 0 0] 42))=wq at *
 obtain ⟨G2,hG2⟩:∃G2,G2=w.heap.size:=⟨_,rfl⟩
 obtain ⟨G3,hG3⟩:∃G3,G3=w.heap.size+1:=⟨_,rfl⟩
 obtain ⟨G4,hG4⟩:∃G4,G4=w.heap.size+2:=⟨_,rfl⟩
 rw [<-hG4] at hb4 ⊢
 rw [<-hG3] at hb3 ⊢
 rw [<-hG2] at hb2 ⊢
 have k4:w.heap.size<=G4:=by omega
 clear hG2 hG3 hG4
 refine wp_region_v (by kernel_rfl) [[], [(5, 0)], [], [(7, 2)], [(6, 1), (8, 3)], [], [(10, 5)], [], [(12, 7)], [(11, 6), (13, 8)], [(9, 4), (14, 9)]] [[], [0], [], [2], [0, 1, 2, 3], [], [5], [], [7], [0, 1, 2, 3, 4, 5, 6, 7, 8], [0, 1, 2, 3, 4, 5, 6, 7, 8, 9]]
  [λv _=>v = .pointer (some ⟨G2,0,none⟩),λv _=>v = .agg #[.bool b,.slice A n c],λv _=>v = .pointer (some ⟨G3,0,none⟩),λv _=>v = .agg #[.bool d,.slice E m k],λv w'=>∃b A n c,v = .agg #[.bool b,.slice A n c]/\IsInt w' (.bool b) (.slice A n c) (p.num*q.num),λv _=>v = .pointer (some ⟨G2,2,none⟩),λv _=>v = .agg #[.bool b',.slice A' n' c'],λv _=>v = .pointer (some ⟨G3,2,none⟩),λv _=>v = .agg #[.bool d',.slice E' m' k'],λv w'=>∃b A n c,v = .agg #[.bool b,.slice A n c]/\IsInt w' (.bool b) (.slice A n c) ((p.den:Int)*(q.den:Int)),λv w'=>∃b A n c b' A' n' c',v = .agg #[.bool b,.slice A n c,.bool b',.slice A' n' c']/\IsRat w' (.bool b) (.slice A n c) (.bool b') (.slice A' n' c') (p*q)]
  rfl (by kernel_rfl) (by kernel_rfl) ?stab ?steps ?fin
 case stab=>exact .cons (Stab.eq _) (.cons (Stab.eq _) (.cons (Stab.eq _) (.cons (Stab.eq _) (.cons (λ_ _ _ he ⟨b,A,n,c,h1,h2⟩=>⟨b,A,n,c,h1,h2.ext he⟩) (.cons (Stab.eq _) (.cons (Stab.eq _) (.cons (Stab.eq _) (.cons (Stab.eq _) (.cons (λ_ _ _ he ⟨b,A,n,c,h1,h2⟩=>⟨b,A,n,c,h1,h2.ext he⟩) (.cons (λ_ _ _ he ⟨b,A,n,c,b',A',n',c',h1,h2⟩=>⟨b,A,n,c,b',A',n',c',h1,h2.ext he⟩) .nil))))))))))
 case steps=>
  refine .cons ?s0 (.cons ?s1 (.cons ?s2 (.cons ?s3 (.cons ?s4 (.cons ?s5 (.cons ?s6 (.cons ?s7 (.cons ?s8 (.cons ?s9 (.cons ?s10 .nil))))))))))
  case s0=>
   intro w' ev hE hk ha hc hf
   have e2:ev (.tmp 2) = .pointer (some ⟨G2,0,none⟩):=ha 2 (by decide)
   exact Ag (by simp [execOp,e2,go_sem]) rfl
  case s1=>
   intro w' ev hE hk ha hc hf
   have e5:ev (.tmp 5) = .pointer (some ⟨G2,0,none⟩):=hk.1 _ rfl
   have c0:w'.cell? ⟨G2,0,none⟩=some (.bool b):=hE.cellv ((hb2.out.cell 0))
   have c1:w'.cell? ⟨G2,1,none⟩=some (.slice A n c):=hE.cellv ((hb2.out.cell 1))
   exact Ag (by simp [execOp,e5,c0,c1,go_sem]) rfl
  case s2=>
   intro w' ev hE hk ha hc hf
   have e3:ev (.tmp 3) = .pointer (some ⟨G3,0,none⟩):=ha 3 (by decide)
   exact Ag (by simp [execOp,e3,go_sem]) rfl
  case s3=>
   intro w' ev hE hk ha hc hf
   have e7:ev (.tmp 7) = .pointer (some ⟨G3,0,none⟩):=hk.1 _ rfl
   have c0:w'.cell? ⟨G3,0,none⟩=some (.bool d):=hE.cellv ((hb3.out.cell 0))
   have c1:w'.cell? ⟨G3,1,none⟩=some (.slice E m k):=hE.cellv ((hb3.out.cell 1))
   exact Ag (by simp [execOp,e7,c0,c1,go_sem]) rfl
  case s4=>
   intro w' ev hE hk ha hc hf
   have e6:ev (.tmp 6) = .agg #[.bool b,.slice A n c]:=hk.1 _ rfl
   have e8:ev (.tmp 8) = .agg #[.bool d,.slice E m k]:=hk.2.1 _ rfl
   refine Aw (by simp [execOp,resolve,invoke,hf,e6,e8,go_sem]) (GE b d A E n c m k _ _ _ (hX.out.1.ext ((Ext.refl _).drew.trans hE)) (hY.out.1.ext ((Ext.refl _).drew.trans hE)) (by have:=l1.out;omega) (by have:=l3.out;omega)) ?_
   rintro e w1 ⟨b1,A1,n1,k1,rfl,hI1,hE1⟩
   exact ⟨_,rfl,hE1,b1,A1,n1,k1,rfl,hI1⟩
  case s5=>
   intro w' ev hE hk ha hc hf
   have e2:ev (.tmp 2) = .pointer (some ⟨G2,0,none⟩):=ha 2 (by decide)
   exact Ag (by simp [execOp,e2,go_sem]) rfl
  case s6=>
   intro w' ev hE hk ha hc hf
   have e10:ev (.tmp 10) = .pointer (some ⟨G2,2,none⟩):=hk.1 _ rfl
   have c0:w'.cell? ⟨G2,2,none⟩=some (.bool b'):=hE.cellv ((hb2.out.cell 2))
   have c1:w'.cell? ⟨G2,3,none⟩=some (.slice A' n' c'):=hE.cellv ((hb2.out.cell 3))
   exact Ag (by simp [execOp,e10,c0,c1,go_sem]) rfl
  case s7=>
   intro w' ev hE hk ha hc hf
   have e3:ev (.tmp 3) = .pointer (some ⟨G3,0,none⟩):=ha 3 (by decide)
   exact Ag (by simp [execOp,e3,go_sem]) rfl
  case s8=>
   intro w' ev hE hk ha hc hf
   have e12:ev (.tmp 12) = .pointer (some ⟨G3,2,none⟩):=hk.1 _ rfl
   have c0:w'.cell? ⟨G3,2,none⟩=some (.bool d'):=hE.cellv ((hb3.out.cell 2))
   have c1:w'.cell? ⟨G3,3,none⟩=some (.slice E' m' k'):=hE.cellv ((hb3.out.cell 3))
   exact Ag (by simp [execOp,e12,c0,c1,go_sem]) rfl
  case s9=>
   intro w' ev hE hk ha hc hf
   have e11:ev (.tmp 11) = .agg #[.bool b',.slice A' n' c']:=hk.1 _ rfl
   have e13:ev (.tmp 13) = .agg #[.bool d',.slice E' m' k']:=hk.2.1 _ rfl
   refine Aw (by simp [execOp,resolve,invoke,hf,e11,e13,go_sem]) (GE b' d' A' E' n' c' m' k' _ _ _ (hX.out.2.ext ((Ext.refl _).drew.trans hE)) (hY.out.2.ext ((Ext.refl _).drew.trans hE)) (by have:=l2.out;omega) (by have:=l4.out;omega)) ?_
   rintro e w1 ⟨b1,A1,n1,k1,rfl,hI1,hE1⟩
   exact ⟨_,rfl,hE1,b1,A1,n1,k1,rfl,hI1⟩
  case s10=>
   intro w' ev hE hk ha hc hf
   have f9:=hk.1 _ rfl
   have f14:=hk.2.1 _ rfl
   obtain ⟨b9',A9',n9',c9',e9,hw9⟩:=f9
   obtain ⟨b14',A14',n14',c14',e14,hw14⟩:=f14
   refine Aw (by simp [execOp,resolve,invoke,hf,e9,e14,go_sem]) (FZ b9' b14' A9' A14' n9' c9' n14' c14' _ _ _ hw9 hw14 (by have:=l5.out;omega) (by have:=l6.out;omega) (Int.ne_of_gt (Int.mul_pos (den_pos p) (den_pos q)))) ?_
   rw [<-SF p q]
   rintro e w1 ⟨b1,b2,A1,A2,n1,k1,n2,k2,rfl,hI1,hE1⟩
   exact ⟨_,rfl,hE1,b1,A1,n1,k1,b2,A2,n2,k2,rfl,hI1⟩
 case fin=>
  intro gf w' hE hF
  obtain ⟨b8,A8,n8,c8',b9,A9,n9,c9,e8,hI8⟩:=hF 10 _ rfl
  replace hE:=Ac ((Ext.refl _).drew.trans hE)
  have hb4':=hb4.out.ext hE.out
  have z0:w'.cell? ⟨G4,0,none⟩=some (.bool false):=hb4'.cell 0
  have z1:w'.cell? ⟨G4,1,none⟩=some (.slice none 0 0):=hb4'.cell 1
  have z2:w'.cell? ⟨G4,2,none⟩=some (.bool false):=hb4'.cell 2
  have z3:w'.cell? ⟨G4,3,none⟩=some (.slice none 0 0):=hb4'.cell 3
  have y0:=hb4'.frozen 0
  have y1:=hb4'.frozen 1
  have y2:=hb4'.frozen 2
  have y3:=hb4'.frozen 3
  have ht:Ty w' G4 42:=hb4'.ty
  simp only [List.length_cons,List.length_nil,Nat.reduceAdd,List.drop_succ_cons,List.drop_zero,List.take_succ_cons,List.take_zero,CM,Act.put,List.setIfInBounds_toArray,List.set_cons_succ,List.set_cons_zero,e8]
  replace hI8:=Ac hI8
  replace hb4':=Ac hb4'
  clear hF e8
  go_wp2
  refine bodyPost_ret (v:=.agg #[.bool b8,.slice A8 n8 c8',.bool b9,.slice A9 n9 c9]) (by simp [results,Tryz.results87,go_sem,z0,z1,z2,z3]) rfl ⟨_,_,_,_,_,_,_,_,rfl,?_,?_⟩
  .exact hI8.out.put4 (b:=G4) ht (by decide) (.bool b8) (.slice A8 n8 c8') (.bool b9) (.slice A9 n9 c9)
  .exact (hEw.out.trans hE.out).put4 (b:=G4) (by omega) (.bool b8) (.slice A8 n8 c8') (.bool b9) (.slice A9 n9 c9)
theorem ZG(b b':Bool)(A A':Option Addr)(n c n' c':Nat)(d d':Bool)(E E':Option Addr)(m k m' k':Nat)(p q:Rat)(N M:Nat)(w:World)(h:IsRat w (.bool b) (.slice A n c) (.bool b') (.slice A' n' c') p)(h':IsRat w (.bool d) (.slice E m k) (.bool d') (.slice E' m' k') q)(hp:RSz p N)(hq:RSz q M)(hN:N+M+1<=4398046511103) :
  Calls Tryz.prog 54 #[.agg #[.bool b,.slice A n c,.bool b',.slice A' n' c'],.agg #[.bool d,.slice E m k,.bool d',.slice E' m' k']] w (ES (p+q) w):=by
 have hb2:Hid (Blk (((w.alloc (.cells #[.bool b,.slice A n c,.bool b',.slice A' n' c'] 42)).alloc (.cells #[.bool d,.slice E m k,.bool d',.slice E' m' k'] 42)).alloc (.cells #[.bool false,.slice none 0 0,.bool false,.slice none 0 0] 42)) w.heap.size 42 #[.bool b,.slice A n c,.bool b',.slice A' n' c']):=((Blk.new _ _ _).alloc _).alloc _
 have hb3:Hid (Blk (((w.alloc (.cells #[.bool b,.slice A n c,.bool b',.slice A' n' c'] 42)).alloc (.cells #[.bool d,.slice E m k,.bool d',.slice E' m' k'] 42)).alloc (.cells #[.bool false,.slice none 0 0,.bool false,.slice none 0 0] 42)) (w.heap.size+1) 42 #[.bool d,.slice E m k,.bool d',.slice E' m' k']):=(AW _ _ (by simp)).alloc _
 have hb4:Hid (Blk (((w.alloc (.cells #[.bool b,.slice A n c,.bool b',.slice A' n' c'] 42)).alloc (.cells #[.bool d,.slice E m k,.bool d',.slice E' m' k'] 42)).alloc (.cells #[.bool false,.slice none 0 0,.bool false,.slice none 0 0] 42)) (w.heap.size+2) 42 #[.bool false,.slice none 0 0,.bool false,.slice none 0 0]):=AW _ _ (by simp)
 have hEw:Hid (Ext w (((w.alloc (.cells #[.bool b,.slice A n c,.bool b',.slice A' n' c'] 42)).alloc (.cells #[.bool d,.slice E m k,.bool d',.slice E' m' k'] 42)).alloc (.cells #[.bool false,.slice none 0 0,.bool false,.slice none 0 0] 42))):=(((Ext.refl _).alloc _).alloc _).alloc _
 have hX:=Ac (h.ext hEw.out)
 have hY:=Ac (h'.ext hEw.out)
 clear h h'
 have l1:=Ac hp.1
 have l2:=Ac (Cs p hp)
 have l3:=Ac hq.1
 have l4:=Ac (Cs q hq)
 have l5:=Ac (BZ l1.out l4.out)
 have l6:=Ac (BZ l3.out l2.out)
 have l7:=Ac (Pe l5.out (by have:=l6.out;rw [Nat.add_comm M N] at this;exact this))
 have l8:=Ac (BZ l2.out l4.out)
 replace hp:=Ac hp
 replace hq:=Ac hq
 go_enter Tryz.func54,Tryz.ntmps54
 go_upto_region 1 with (fail)
 generalize (((w.alloc (.cells #[.bool b,.slice A n c,.bool b',.slice A' n' c'] 42)).alloc (.cells #[.bool d,.slice E m k,.bool d',.slice E' m' k'] 42)).alloc (.cells #[.bool false,.slice none 0 0,.bool false,.slice none 0 0] 42))=wq at *
 obtain ⟨G2,hG2⟩:∃G2,G2=w.heap.size:=⟨_,rfl⟩
 obtain ⟨G3,hG3⟩:∃G3,G3=w.heap.size+1:=⟨_,rfl⟩
 obtain ⟨G4,hG4⟩:∃G4,G4=w.heap.size+2:=⟨_,rfl⟩
 rw [<-hG4] at hb4 ⊢
 rw [<-hG3] at hb3 ⊢
 rw [<-hG2] at hb2 ⊢
 have k4:w.heap.size<=G4:=by omega
 clear hG2 hG3 hG4
 refine wp_region_v (by kernel_rfl) [[], [(5, 0)], [], [(7, 2)], [(6, 1), (8, 3)], [], [(10, 5)], [], [(12, 7)], [(11, 6), (13, 8)], [(9, 4), (14, 9)], [], [(16, 11)], [], [(18, 13)], [(17, 12), (19, 14)], [(15, 10), (20, 15)]] [[], [0], [], [2], [0, 1, 2, 3], [], [5], [], [7], [0, 1, 2, 3, 4, 5, 6, 7, 8], [0, 1, 2, 3, 4, 5, 6, 7, 8, 9], [], [11], [], [13], [0, 1, 2, 3, 4, 5, 6, 7, 8, 9, 10, 11, 12, 13, 14], [0, 1, 2, 3, 4, 5, 6, 7, 8, 9, 10, 11, 12, 13, 14, 15]]
  [λv _=>v = .pointer (some ⟨G2,0,none⟩),λv _=>v = .agg #[.bool b,.slice A n c],λv _=>v = .pointer (some ⟨G3,2,none⟩),λv _=>v = .agg #[.bool d',.slice E' m' k'],λv w'=>∃b A n c,v = .agg #[.bool b,.slice A n c]/\IsInt w' (.bool b) (.slice A n c) (p.num*(q.den:Int)),λv _=>v = .pointer (some ⟨G3,0,none⟩),λv _=>v = .agg #[.bool d,.slice E m k],λv _=>v = .pointer (some ⟨G2,2,none⟩),λv _=>v = .agg #[.bool b',.slice A' n' c'],λv w'=>∃b A n c,v = .agg #[.bool b,.slice A n c]/\IsInt w' (.bool b) (.slice A n c) (q.num*(p.den:Int)),λv w'=>∃b A n c,v = .agg #[.bool b,.slice A n c]/\IsInt w' (.bool b) (.slice A n c) (p.num*(q.den:Int)+q.num*(p.den:Int)),λv _=>v = .pointer (some ⟨G2,2,none⟩),λv _=>v = .agg #[.bool b',.slice A' n' c'],λv _=>v = .pointer (some ⟨G3,2,none⟩),λv _=>v = .agg #[.bool d',.slice E' m' k'],λv w'=>∃b A n c,v = .agg #[.bool b,.slice A n c]/\IsInt w' (.bool b) (.slice A n c) ((p.den:Int)*(q.den:Int)),λv w'=>∃b A n c b' A' n' c',v = .agg #[.bool b,.slice A n c,.bool b',.slice A' n' c']/\IsRat w' (.bool b) (.slice A n c) (.bool b') (.slice A' n' c') (p+q)]
  rfl (by kernel_rfl) (by kernel_rfl) ?stab ?steps ?fin
 case stab=>exact .cons (Stab.eq _) (.cons (Stab.eq _) (.cons (Stab.eq _) (.cons (Stab.eq _) (.cons (λ_ _ _ he ⟨b,A,n,c,h1,h2⟩=>⟨b,A,n,c,h1,h2.ext he⟩) (.cons (Stab.eq _) (.cons (Stab.eq _) (.cons (Stab.eq _) (.cons (Stab.eq _) (.cons (λ_ _ _ he ⟨b,A,n,c,h1,h2⟩=>⟨b,A,n,c,h1,h2.ext he⟩) (.cons (λ_ _ _ he ⟨b,A,n,c,h1,h2⟩=>⟨b,A,n,c,h1,h2.ext he⟩) (.cons (Stab.eq _) (.cons (Stab.eq _) (.cons (Stab.eq _) (.cons (Stab.eq _) (.cons (λ_ _ _ he ⟨b,A,n,c,h1,h2⟩=>⟨b,A,n,c,h1,h2.ext he⟩) (.cons (λ_ _ _ he ⟨b,A,n,c,b',A',n',c',h1,h2⟩=>⟨b,A,n,c,b',A',n',c',h1,h2.ext he⟩) .nil))))))))))))))))
 case steps=>
  refine .cons ?s0 (.cons ?s1 (.cons ?s2 (.cons ?s3 (.cons ?s4 (.cons ?s5 (.cons ?s6 (.cons ?s7 (.cons ?s8 (.cons ?s9 (.cons ?s10 (.cons ?s11 (.cons ?s12 (.cons ?s13 (.cons ?s14 (.cons ?s15 (.cons ?s16 .nil))))))))))))))))
  case s0=>
   intro w' ev hE hk ha hc hf
   have e2:ev (.tmp 2) = .pointer (some ⟨G2,0,none⟩):=ha 2 (by decide)
   exact Ag (by simp [execOp,e2,go_sem]) rfl
  case s1=>
   intro w' ev hE hk ha hc hf
   have e5:ev (.tmp 5) = .pointer (some ⟨G2,0,none⟩):=hk.1 _ rfl
   have c0:w'.cell? ⟨G2,0,none⟩=some (.bool b):=hE.cellv ((hb2.out.cell 0))
   have c1:w'.cell? ⟨G2,1,none⟩=some (.slice A n c):=hE.cellv ((hb2.out.cell 1))
   exact Ag (by simp [execOp,e5,c0,c1,go_sem]) rfl
  case s2=>
   intro w' ev hE hk ha hc hf
   have e3:ev (.tmp 3) = .pointer (some ⟨G3,0,none⟩):=ha 3 (by decide)
   exact Ag (by simp [execOp,e3,go_sem]) rfl
  case s3=>
   intro w' ev hE hk ha hc hf
   have e7:ev (.tmp 7) = .pointer (some ⟨G3,2,none⟩):=hk.1 _ rfl
   have c0:w'.cell? ⟨G3,2,none⟩=some (.bool d'):=hE.cellv ((hb3.out.cell 2))
   have c1:w'.cell? ⟨G3,3,none⟩=some (.slice E' m' k'):=hE.cellv ((hb3.out.cell 3))
   exact Ag (by simp [execOp,e7,c0,c1,go_sem]) rfl
  case s4=>
   intro w' ev hE hk ha hc hf
   have e6:ev (.tmp 6) = .agg #[.bool b,.slice A n c]:=hk.1 _ rfl
   have e8:ev (.tmp 8) = .agg #[.bool d',.slice E' m' k']:=hk.2.1 _ rfl
   refine Aw (by simp [execOp,resolve,invoke,hf,e6,e8,go_sem]) (GE b d' A E' n c m' k' _ _ _ (hX.out.1.ext ((Ext.refl _).drew.trans hE)) (hY.out.2.ext ((Ext.refl _).drew.trans hE)) (by have:=l1.out;omega) (by have:=l4.out;omega)) ?_
   rintro e w1 ⟨b1,A1,n1,k1,rfl,hI1,hE1⟩
   exact ⟨_,rfl,hE1,b1,A1,n1,k1,rfl,hI1⟩
  case s5=>
   intro w' ev hE hk ha hc hf
   have e3:ev (.tmp 3) = .pointer (some ⟨G3,0,none⟩):=ha 3 (by decide)
   exact Ag (by simp [execOp,e3,go_sem]) rfl
  case s6=>
   intro w' ev hE hk ha hc hf
   have e10:ev (.tmp 10) = .pointer (some ⟨G3,0,none⟩):=hk.1 _ rfl
   have c0:w'.cell? ⟨G3,0,none⟩=some (.bool d):=hE.cellv ((hb3.out.cell 0))
   have c1:w'.cell? ⟨G3,1,none⟩=some (.slice E m k):=hE.cellv ((hb3.out.cell 1))
   exact Ag (by simp [execOp,e10,c0,c1,go_sem]) rfl
  case s7=>
   intro w' ev hE hk ha hc hf
   have e2:ev (.tmp 2) = .pointer (some ⟨G2,0,none⟩):=ha 2 (by decide)
   exact Ag (by simp [execOp,e2,go_sem]) rfl
  case s8=>
   intro w' ev hE hk ha hc hf
   have e12:ev (.tmp 12) = .pointer (some ⟨G2,2,none⟩):=hk.1 _ rfl
   have c0:w'.cell? ⟨G2,2,none⟩=some (.bool b'):=hE.cellv ((hb2.out.cell 2))
   have c1:w'.cell? ⟨G2,3,none⟩=some (.slice A' n' c'):=hE.cellv ((hb2.out.cell 3))
   exact Ag (by simp [execOp,e12,c0,c1,go_sem]) rfl
  case s9=>
   intro w' ev hE hk ha hc hf
   have e11:ev (.tmp 11) = .agg #[.bool d,.slice E m k]:=hk.1 _ rfl
   have e13:ev (.tmp 13) = .agg #[.bool b',.slice A' n' c']:=hk.2.1 _ rfl
   refine Aw (by simp [execOp,resolve,invoke,hf,e11,e13,go_sem]) (GE d b' E A' m k n' c' _ _ _ (hY.out.1.ext ((Ext.refl _).drew.trans hE)) (hX.out.2.ext ((Ext.refl _).drew.trans hE)) (by have:=l3.out;omega) (by have:=l2.out;omega)) ?_
   rintro e w1 ⟨b1,A1,n1,k1,rfl,hI1,hE1⟩
   exact ⟨_,rfl,hE1,b1,A1,n1,k1,rfl,hI1⟩
  case s10=>
   intro w' ev hE hk ha hc hf
   have f9:=hk.1 _ rfl
   have f14:=hk.2.1 _ rfl
   obtain ⟨b9',A9',n9',c9',e9,hw9⟩:=f9
   obtain ⟨b14',A14',n14',c14',e14,hw14⟩:=f14
   refine Aw (by simp [execOp,resolve,invoke,hf,e9,e14,go_sem]) (RB b9' b14' A9' A14' n9' c9' n14' c14' _ _ _ hw9 hw14 (by have:=l5.out;omega) (by have:=l6.out;omega)) ?_
   rintro e w1 ⟨b1,A1,n1,k1,rfl,hI1,hE1⟩
   exact ⟨_,rfl,hE1,b1,A1,n1,k1,rfl,hI1⟩
  case s11=>
   intro w' ev hE hk ha hc hf
   have e2:ev (.tmp 2) = .pointer (some ⟨G2,0,none⟩):=ha 2 (by decide)
   exact Ag (by simp [execOp,e2,go_sem]) rfl
  case s12=>
   intro w' ev hE hk ha hc hf
   have e16:ev (.tmp 16) = .pointer (some ⟨G2,2,none⟩):=hk.1 _ rfl
   have c0:w'.cell? ⟨G2,2,none⟩=some (.bool b'):=hE.cellv ((hb2.out.cell 2))
   have c1:w'.cell? ⟨G2,3,none⟩=some (.slice A' n' c'):=hE.cellv ((hb2.out.cell 3))
   exact Ag (by simp [execOp,e16,c0,c1,go_sem]) rfl
  case s13=>
   intro w' ev hE hk ha hc hf
   have e3:ev (.tmp 3) = .pointer (some ⟨G3,0,none⟩):=ha 3 (by decide)
   exact Ag (by simp [execOp,e3,go_sem]) rfl
  case s14=>
   intro w' ev hE hk ha hc hf
   have e18:ev (.tmp 18) = .pointer (some ⟨G3,2,none⟩):=hk.1 _ rfl
   have c0:w'.cell? ⟨G3,2,none⟩=some (.bool d'):=hE.cellv ((hb3.out.cell 2))
   have c1:w'.cell? ⟨G3,3,none⟩=some (.slice E' m' k'):=hE.cellv ((hb3.out.cell 3))
   exact Ag (by simp [execOp,e18,c0,c1,go_sem]) rfl
  case s15=>
   intro w' ev hE hk ha hc hf
   have e17:ev (.tmp 17) = .agg #[.bool b',.slice A' n' c']:=hk.1 _ rfl
   have e19:ev (.tmp 19) = .agg #[.bool d',.slice E' m' k']:=hk.2.1 _ rfl
   refine Aw (by simp [execOp,resolve,invoke,hf,e17,e19,go_sem]) (GE b' d' A' E' n' c' m' k' _ _ _ (hX.out.2.ext ((Ext.refl _).drew.trans hE)) (hY.out.2.ext ((Ext.refl _).drew.trans hE)) (by have:=l2.out;omega) (by have:=l4.out;omega)) ?_
   rintro e w1 ⟨b1,A1,n1,k1,rfl,hI1,hE1⟩
   exact ⟨_,rfl,hE1,b1,A1,n1,k1,rfl,hI1⟩
  case s16=>
   intro w' ev hE hk ha hc hf
   have f15:=hk.1 _ rfl
   have f20:=hk.2.1 _ rfl
   obtain ⟨b15',A15',n15',c15',e15,hw15⟩:=f15
   obtain ⟨b20',A20',n20',c20',e20,hw20⟩:=f20
   refine Aw (by simp [execOp,resolve,invoke,hf,e15,e20,go_sem]) (FZ b15' b20' A15' A20' n15' c15' n20' c20' _ _ _ hw15 hw20 (by have:=l7.out;omega) (by have:=l8.out;omega) (Int.ne_of_gt (Int.mul_pos (den_pos p) (den_pos q)))) ?_
   rw [<-Kl p q]
   rintro e w1 ⟨b1,b2,A1,A2,n1,k1,n2,k2,rfl,hI1,hE1⟩
   exact ⟨_,rfl,hE1,b1,A1,n1,k1,b2,A2,n2,k2,rfl,hI1⟩
 case fin=>
  intro gf w' hE hF
  obtain ⟨b8,A8,n8,c8',b9,A9,n9,c9,e8,hI8⟩:=hF 16 _ rfl
  replace hE:=Ac ((Ext.refl _).drew.trans hE)
  have hb4':=hb4.out.ext hE.out
  have z0:w'.cell? ⟨G4,0,none⟩=some (.bool false):=hb4'.cell 0
  have z1:w'.cell? ⟨G4,1,none⟩=some (.slice none 0 0):=hb4'.cell 1
  have z2:w'.cell? ⟨G4,2,none⟩=some (.bool false):=hb4'.cell 2
  have z3:w'.cell? ⟨G4,3,none⟩=some (.slice none 0 0):=hb4'.cell 3
  have y0:=hb4'.frozen 0
  have y1:=hb4'.frozen 1
  have y2:=hb4'.frozen 2
  have y3:=hb4'.frozen 3
  have ht:Ty w' G4 42:=hb4'.ty
  simp only [List.length_cons,List.length_nil,Nat.reduceAdd,List.drop_succ_cons,List.drop_zero,List.take_succ_cons,List.take_zero,CM,Act.put,List.setIfInBounds_toArray,List.set_cons_succ,List.set_cons_zero,e8]
  replace hI8:=Ac hI8
  replace hb4':=Ac hb4'
  clear hF e8
  go_wp2
  refine bodyPost_ret (v:=.agg #[.bool b8,.slice A8 n8 c8',.bool b9,.slice A9 n9 c9]) (by simp [results,Tryz.results54,go_sem,z0,z1,z2,z3]) rfl ⟨_,_,_,_,_,_,_,_,rfl,?_,?_⟩
  .exact hI8.out.put4 (b:=G4) ht (by decide) (.bool b8) (.slice A8 n8 c8') (.bool b9) (.slice A9 n9 c9)
  .exact (hEw.out.trans hE.out).put4 (b:=G4) (by omega) (.bool b8) (.slice A8 n8 c8') (.bool b9) (.slice A9 n9 c9)
theorem ZB(b b':Bool)(A A':Option Addr)(n c n' c':Nat)(x y:Int)(w:World)(h:IsInt w (.bool b) (.slice A n c) x)(h':IsInt w (.bool b') (.slice A' n' c') y)(hn:(Am x.natAbs).length<=4398046511103)(hn':(Am y.natAbs).length<=4398046511103)(hy:y≠0) :
  Calls Tryz.prog 92 #[.agg #[.bool b,.slice A n c],.agg #[.bool b',.slice A' n' c']] w (MO (Rat.divInt x y) w):=by
 have hb2:Hid (Blk (((w.alloc (.cells #[.bool b,.slice A n c] 40)).alloc (.cells #[.bool b',.slice A' n' c'] 40)).alloc (.cells #[.bool false,.slice none 0 0,.bool false,.slice none 0 0] 42)) w.heap.size 40 #[.bool b,.slice A n c]):=((Blk.new _ _ _).alloc _).alloc _
 have hb3:Hid (Blk (((w.alloc (.cells #[.bool b,.slice A n c] 40)).alloc (.cells #[.bool b',.slice A' n' c'] 40)).alloc (.cells #[.bool false,.slice none 0 0,.bool false,.slice none 0 0] 42)) (w.heap.size+1) 40 #[.bool b',.slice A' n' c']):=(AW _ _ (by simp)).alloc _
 have hb4:Hid (Blk (((w.alloc (.cells #[.bool b,.slice A n c] 40)).alloc (.cells #[.bool b',.slice A' n' c'] 40)).alloc (.cells #[.bool false,.slice none 0 0,.bool false,.slice none 0 0] 42)) (w.heap.size+2) 42 #[.bool false,.slice none 0 0,.bool false,.slice none 0 0]):=AW _ _ (by simp)
 have hEw:Hid (Ext w (((w.alloc (.cells #[.bool b,.slice A n c] 40)).alloc (.cells #[.bool b',.slice A' n' c'] 40)).alloc (.cells #[.bool false,.slice none 0 0,.bool false,.slice none 0 0] 42))):=(((Ext.refl _).alloc _).alloc _).alloc _
 have hX:=Ac (h.ext hEw.out)
 have hY:=Ac (h'.ext hEw.out)
 clear h h'
 replace hn:=Ac hn
 replace hn':=Ac hn'
 have hs:y.sign≠0:=by rw [Ne,Int.sign_eq_zero_iff_zero];exact hy
 have hsb:(y.sign==0)=false:=by simpa using hs
 clear hs
 replace hy:=Ac hy
 go_enter Tryz.func92,Tryz.ntmps92
 go_wp2_with fail
 generalize (((w.alloc (.cells #[.bool b,.slice A n c] 40)).alloc (.cells #[.bool b',.slice A' n' c'] 40)).alloc (.cells #[.bool false,.slice none 0 0,.bool false,.slice none 0 0] 42))=wq at *
 refine (GD b' A' n' c' y _ hY.out).mono ?_
 rintro e w1 ⟨rfl,hE1⟩
 generalize y.sign=s at *
 replace hb2:=Ac (hb2.out.ext hE1)
 replace hb3:=Ac (hb3.out.ext hE1)
 replace hb4:=Ac (hb4.out.ext hE1)
 replace hX:=Ac (hX.out.ext hE1)
 replace hY:=Ac (hY.out.ext hE1)
 replace hEw:=Ac (hEw.out.trans hE1)
 clear hE1
 have q0:w1.cell? ⟨w.heap.size,0,none⟩=some (.bool b):=hb2.out.cell 0
 have q1:w1.cell? ⟨w.heap.size,1,none⟩=some (.slice A n c):=hb2.out.cell 1
 have r0:w1.cell? ⟨w.heap.size+1,0,none⟩=some (.bool b'):=hb3.out.cell 0
 have r1:w1.cell? ⟨w.heap.size+1,1,none⟩=some (.slice A' n' c'):=hb3.out.cell 1
 go_wp2_with fail
 refine (FZ b b' A A' n c n' c' x y _ hX.out hY.out hn.out hn'.out hy.out).mono ?_
 rintro e w2 ⟨b8,b9,A8,A9,n8,c8',n9,c9,rfl,hI8,hE1⟩
 replace hb4:=Ac (hb4.out.ext hE1)
 replace hEw:=Ac (hEw.out.trans hE1)
 replace hI8:=Ac hI8
 clear hE1 q0 q1 r0 r1
 have z0:w2.cell? ⟨w.heap.size+2,0,none⟩=some (.bool false):=hb4.out.cell 0
 have z1:w2.cell? ⟨w.heap.size+2,1,none⟩=some (.slice none 0 0):=hb4.out.cell 1
 have z2:w2.cell? ⟨w.heap.size+2,2,none⟩=some (.bool false):=hb4.out.cell 2
 have z3:w2.cell? ⟨w.heap.size+2,3,none⟩=some (.slice none 0 0):=hb4.out.cell 3
 have y0:=hb4.out.frozen 0
 have y1:=hb4.out.frozen 1
 have y2:=hb4.out.frozen 2
 have y3:=hb4.out.frozen 3
 have ht:Ty w2 (w.heap.size+2) 42:=hb4.out.ty
 go_wp2
 refine bodyPost_ret (v:=.tuple #[.agg #[.bool b8,.slice A8 n8 c8',.bool b9,.slice A9 n9 c9],.int .i64 0]) (by simp [results,Tryz.results92,go_sem,z0,z1,z2,z3]) rfl ⟨_,_,_,_,_,_,_,_,rfl,?_,?_⟩
 .exact hI8.out.put4 (b:=w.heap.size+2) ht (by decide) (.bool b8) (.slice A8 n8 c8') (.bool b9) (.slice A9 n9 c9)
 .exact hEw.out.put4 (b:=w.heap.size+2) (by omega) (.bool b8) (.slice A8 n8 c8') (.bool b9) (.slice A9 n9 c9)
end Go.Proofs.YtnbfnoebjjdmnaaGreat
