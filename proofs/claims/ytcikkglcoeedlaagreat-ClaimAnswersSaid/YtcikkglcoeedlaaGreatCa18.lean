/- Part 18 of the proof of claimAnswers_holds. No condition. -/
import Derived.Test.YtcikkglcoeedlaaGreatCa6
import Derived.Test.YtcikkglcoeedlaaGreatCa10
set_option linter.unusedSimpArgs false
set_option linter.unusedVariables false
set_option maxRecDepth 100000
set_option maxHeartbeats 1600000
namespace Go.Proofs.YtcikkglcoeedlaaGreat
open Go.RowKit
variable{n b:Nat}{w p:World}
theorem WS(a b:Nat->Int)(k n:Nat):HP a b k (n+1)=if a k<b k then -1 else if b k<a k then 1 else HP a b (k+1) n:=by
 have Z:KH a b k=a k-b k:=rfl;have A:a k<b k↔KH a b k<0:=by rw[Z];omega
 have B:b k<a k↔0<KH a b k:=by rw[Z];omega
 rw[Km,Km,DS];simp only[A,B];generalize KH a b k=d;by_cases h:d=0
 .subst h;simp
 .rw [if_neg h]
  by_cases L:d<0
  .simp [L]
  .simp [L,show 0<d by omega]
theorem A0q(a b:Nat->Int)(w:World) :
  Calls Tryz.prog 229 #[.agg #[.int .i64 (a 0),.int .i64 (a 1),.int .i64 (a 2),.int .i64 (a 3),.int .i64 (a 4),.int .i64 (a 5),.int .i64 (a 6),.int .i64 (a 7)],.agg #[.int .i64 (b 0),.int .i64 (b 1),.int .i64 (b 2),.int .i64 (b 3),.int .i64 (b 4),.int .i64 (b 5),.int .i64 (b 6),.int .i64 (b 7)]] w λe N=>e=.returned (.int .i64 (GT a b))/\Ext w N:=by
 go_enter Tryz.func229,Tryz.ntmps229;go_wp2;go_loopw [5] (λi wr=>∃k:Nat,k<=8/\i=.int .i64 k/\Hid (GT a b=HP a b k (8-k)/\Blk wr w.heap.size 112 (c8 a)/\Blk wr (w.heap.size+1) 112 (c8 b)/\Ext w wr)) (λi _=>8-(intOf i).toNat)
 case atStart=>exact⟨0,by omega,rfl,rfl,(Blk.new _ _ _).alloc _,Eb _ _ ZbV,((Ext.refl _).alloc _).alloc _⟩
 case round=>
  obtain⟨k,C,rfl,E⟩:=hrel;by_cases Q:k<8
  .have s:decide ((k:Int)<8)=true:=Zhz
   have L:=E.out.2.1.at8 Q;have M:=E.out.2.2.1.at8 Q;have f:Hid (HP a b k (8-k)=if a k<b k then -1 else if b k<a k then 1 else HP a b (k+1) (8-(k+1))):=by rw[show 8-k=(8-(k+1))+1 by omega];exact WS a b k _
   generalize a k=x at *;generalize b k=y at *;by_cases A:x<y
   .have h:=f.out
    rw[if_pos A]at h;replace h:=Ae h;clear f;go_wp2;go_quiet (fail);go_wp2;go_ret;exact⟨by rw[E.out.1,h.out];rfl,E.out.2.2.2.drewN _⟩
   .by_cases B:y<x
    .have h:=f.out
     rw[if_neg A,if_pos B]at h;replace h:=Ae h;clear f;go_wp2;go_quiet (fail);go_wp2;go_quiet (fail);go_wp2;go_ret;exact⟨by rw[E.out.1,h.out];rfl,(E.out.2.2.2.drewN _).drewN _⟩
    .have h:=f.out
     rw[if_neg A,if_neg B]at h;replace h:=Ae h;clear f;go_wp2;go_quiet (fail);go_wp2;go_quiet (fail);go_wp2;exact⟨⟨k+1,Q,by simp,by rw[E.out.1,h.out],E.out.2.1,E.out.2.2.1,E.out.2.2.2.drewN _⟩,by simp[intOf];omega⟩
  .obtain rfl:k=8:=by omega
   have s:decide (((8:Nat):Int)<8)=false:=by simp
   go_wp2;go_ret;exact⟨by rw[E.out.1];rfl,E.out.2.2.2⟩
theorem A2w(w:World):Calls Tryz.prog 129 #[] w (LX [] w):=by
 go_enter Tryz.func129,Tryz.ntmps129;go_wp2;go_ret;exact⟨_,_,rfl,OwnRows.blk (R:=[]) (Nat.le_refl _) (Blk.new _ _ _) rfl ZbV,(Ext.refl _).alloc _⟩
theorem A3p:(rl [BM 255]).toArray=#[.int .i64 1,.int .i64 1,.int .i64 1,.int .i64 1,.int .i64 1,.int .i64 1,.int .i64 1,.int .i64 1]:=rfl
theorem NM(w:World):Calls Tryz.prog 130 #[] w (LX [BM 255] w):=by
 go_enter Tryz.func130,Tryz.ntmps130;go_wp2;go_ret;exact⟨_,_,rfl,OwnRows.blk (R:=[BM 255]) (Nat.le_refl _) (by rw[A3p];exact Blk.new _ _ _) rfl ZbV,(Ext.refl _).alloc _⟩
theorem A0m(i:Nat)(n:Int)(w:World)(M:i<8) :
  Calls Tryz.prog 231 #[.int .i64 i,.int .i64 n] w λe N=>e=.returned (.agg #[.int .i64 (Jv i n 0),.int .i64 (Jv i n 1),.int .i64 (Jv i n 2),.int .i64 (Jv i n 3),.int .i64 (Jv i n 4),.int .i64 (Jv i n 5),.int .i64 (Jv i n 6),.int .i64 (Jv i n 7)])/\Ext w N:=by
 rcases lt8 M with rfl | rfl | rfl | rfl | rfl | rfl | rfl | rfl
 all_goals
  go_enter Tryz.func231,Tryz.ntmps231;go_wp2;refine bodyPost_ret (v:=.agg (c8 (Jv _ n))) ?_ rfl ⟨rfl,?_⟩
  .simp [results,Tryz.results231,go_sem,Jv,c8]
  .exact ((Ext.refl _).alloc _).alloc _
theorem ZK(k:Nat):Jv k (-1)=DM k:=rfl
theorem LY(w:World):Calls Tryz.prog 131 #[] w (LX revRows w):=by
 go_enter Tryz.func131,Tryz.ntmps131;go_wp2_with fail;refine(NM _).mono ?_;rintro e E ⟨S,m,rfl,V,L⟩;replace V:=Ae V;replace L:=Ae L;go_wp2;go_loopw [1,2] (λv i wr=>∃(k:Nat) (R:List (Nat->Int)) (A:Option Addr) (c:Nat),k<=7/\i=.int .i64 k/\v=.slice A R.length c/\Hid (R++GM k=revRows/\OwnRows 36 w.heap.size wr (.slice A R.length c) R/\Ext w wr)) (λ_ i _=>(intOf i).toNat)
 case atStart=>exact⟨7,[BM 255],_,_,by omega,rfl,rfl,rfl,V.out,L.out⟩
 case round=>
  obtain⟨k,R,A,c,C,rfl,rfl,F⟩:=hrel;clear V L
  match k,C,F with
  |0,C,F=>
   have e:R=revRows:=by have:=F.out.1;rwa [GM,List.append_nil]at this
   subst e;go_wp2;go_ret;exact⟨A,c,rfl,F.out.2.1,F.out.2.2⟩
  |k+1,C,F=>
   have h:Hid (R++[DM (k+1)]++GM k=revRows):=by have:=F.out.1;rw[GM]at this;rw[<-this];show _++_++_=_;rw[List.append_assoc];rfl
   have K:R.length<=8:=by have:=congrArg List.length F.out.1;rw[Hl,List.length_append,Hk]at this;omega
   have a:decide (0<k+1)=true:=by simp
   have j:((k+1:Nat):Int)-1=k:=by omega
   obtain⟨n,B⟩:∃n,n=k+1:=⟨_,rfl⟩;have W:n<8:=by omega
   have s:0<n:=by omega
   rw[<-B]at h a j ⊢;replace B:=Ae B;replace j:=Ae j;go_wp2_with fail;refine(A0m n (-1) _ W).mono ?_;rintro e M ⟨rfl,G⟩;rw[ZK]at *
   obtain⟨J,f,N,O,Q,I⟩:=LR (base:=w.heap.size) (w:=M.alloc (.cells #[.int .i64 (DM n 0),.int .i64 (DM n 1),.int .i64 (DM n 2),.int .i64 (DM n 3),.int .i64 (DM n 4),.int .i64 (DM n 5),.int .i64 (DM n 6),.int .i64 (DM n 7)] 36)) (S:=[DM n]) (x:=.slice (some ⟨M.heap.size,0,none⟩) 1 1)
    ((F.out.2.1.ext G).ext ((Ext.refl _).alloc _)) (OwnRows.blk (R:=[DM n]) (c:=1) (base:=0) (g:=M.heap.size) (Nat.zero_le _) (Blk.new _ _ _) rfl ZbV).rows ZbV Zhz (by have:=F.out.2.2.size;have:=G.size;simp;omega)
   have Z:Hid (Ext w N):=((F.out.2.2.trans G).alloc _).grown' I F.out.2.1.base_le;replace O:=Ae O;replace Q:=Ae Q;clear I;go_wp2_with (at_builtin;go_loud (refine Fx rfl _ _ _ rfl _ _ rfl rfl O.out ?_));exact⟨⟨k,R++[DM n],J,f,by omega,by rw[j.out],by simp,h.out,by simpa using Q.out,Z.out⟩,by have:=B.out;simp[intOf];omega⟩
def OwnV(base:Nat)(v:Value)(w:World)(R:List (Nat->Int)):Prop:=∃A c,v=.slice A R.length c/\OwnRows 36 base w (.slice A R.length c) R
theorem OwnV.ext{base:Nat}{v:Value}{R:List (Nat->Int)}(h:OwnV base v w R)(X:Ext w p):OwnV base v p R:=by
 obtain⟨A,c,B,C⟩:=h;exact⟨A,c,B,C.ext X⟩
theorem Blk.skip8{t:TypeId}{a:Nat->Int}(h:Blk w n t (Go.Proofs.YtcikkglcoeedlaaGreat.c8 (QU a b)))(C:a b=0):Blk w n t (Go.Proofs.YtcikkglcoeedlaaGreat.c8 (QU a (b+1))):=by
 rw[LP (b:=QU a b) λi _=>?_]
 .exact h
 .by_cases A:i<b
  .rw [IH A,IH ZbK]
  .rw [Od A]
   by_cases B:i=b
   .rw [B,IH ZbK,C]
   .rw [Od ZbK]
theorem MY(m:Nat)(w:World)(t:m<256):Calls Tryz.prog 132 #[.int .u8 m] w (LX (BM m::revRows) w):=by
 go_enter Tryz.func132,Tryz.ntmps132;go_wp2;go_loopw [4] (λi wr=>∃k:Nat,k<=8/\i=.int .i64 k/\Hid (Blk wr w.heap.size 36 (c8 (QU (BM m) k))/\Ext w wr)) (λi _=>8-(intOf i).toNat)
 case atStart=>exact⟨0,by omega,rfl,Blk.new _ _ _,(Ext.refl _).alloc _⟩
 case round=>
  obtain⟨k,C,rfl,O⟩:=hrel;by_cases Q:k<8
  .have xf:decide ((k:Int)<8)=true:=Zhz
   go_wp2_with fail;refine(A62 m k _ t Q).mono ?_;rintro e _ ⟨rfl,rfl⟩;have xb:=Ae (WI (m:=m) (i:=k))
   cases F:m.testBit k with
   |true=>
    have B:Hid (BM m k=1):=by rw[xb.out,F];rfl
    have n:=O.out.1.at8 Q;have T:=O.out.1.frozen k;replace F:=Ae F;clear xb;go_wp2;exact⟨⟨k+1,Q,by simp,O.out.1.up8 Q B.out.symm,O.out.2.set (p:=⟨w.heap.size,k,none⟩) (Nat.le_refl _) _⟩,by simp[intOf];omega⟩
   |false=>
    have B:Hid (BM m k=0):=by rw[xb.out,F];rfl
    replace F:=Ae F;clear xb;go_wp2;exact⟨⟨k+1,Q,by simp,O.out.1.skip8 B.out,O.out.2⟩,by simp[intOf];omega⟩
  .obtain rfl:k=8:=by omega
   have l:=Ae O.out.1.full8;have y:=Ae O.out.2;clear O;have xf:decide (((8:Nat):Int)<8)=false:=by simp
   go_upto_region 7 with(fail)
   obtain⟨o,z⟩:∃o,o=w.heap.size:=⟨_,rfl⟩;rw[<-z]at l ⊢;replace z:=Ae z
   refine wp_region_v ZbM [[], [(15, 0)], []] [[], [0], []]
    [λv _=>v=.agg #[.int .i64 (BM m 0),.int .i64 (BM m 1),.int .i64 (BM m 2),.int .i64 (BM m 3),.int .i64 (BM m 4),.int .i64 (BM m 5),.int .i64 (BM m 6),.int .i64 (BM m 7)],λv N=>OwnV w.heap.size v N [BM m],λv N=>OwnV w.heap.size v N revRows]
    rfl ZbM ZbM ?stab ?steps ?fin
   case stab=>exact .cons (Stab.eq _) (.cons (λ_ _ _ X h=>h.ext X) (.cons (λ_ _ _ X h=>h.ext X) .nil))
   case steps=>
    refine .cons ?s0 (.cons ?s1 (.cons ?s2 .nil))
    case s0=>
     intro N G S C s I p;have x:G (.tmp 3)=.pointer (some ⟨o,0,none⟩):=s 3 ZbN;have V:N.cell? ⟨o,0,none⟩=some (.int .i64 (BM m 0)):=S.cellv (l.out.cell 0);have L:N.cell? ⟨o,1,none⟩=some (.int .i64 (BM m 1)):=S.cellv (l.out.cell 1);have a:N.cell? ⟨o,2,none⟩=some (.int .i64 (BM m 2)):=S.cellv (l.out.cell 2);have d:N.cell? ⟨o,3,none⟩=some (.int .i64 (BM m 3)):=S.cellv (l.out.cell 3);have u:N.cell? ⟨o,4,none⟩=some (.int .i64 (BM m 4)):=S.cellv (l.out.cell 4);have H:N.cell? ⟨o,5,none⟩=some (.int .i64 (BM m 5)):=S.cellv (l.out.cell 5);have P:N.cell? ⟨o,6,none⟩=some (.int .i64 (BM m 6)):=S.cellv (l.out.cell 6);have c7:N.cell? ⟨o,7,none⟩=some (.int .i64 (BM m 7)):=S.cellv (l.out.cell 7);exact Ar (by simp[execOp,x,V,L,a,d,u,H,P,c7,go_sem]) rfl
    case s1=>
     intro N G S C s I p;have U:G (.tmp 15)=.agg #[.int .i64 (BM m 0),.int .i64 (BM m 1),.int .i64 (BM m 2),.int .i64 (BM m 3),.int .i64 (BM m 4),.int .i64 (BM m 5),.int .i64 (BM m 6),.int .i64 (BM m 7)]:=C.1 _ rfl;exact Ux (by simp[execOp,U,go_sem]) ((Ext.refl _).alloc _) ⟨_,_,rfl,OwnRows.blk (w:=N.alloc (.cells #[.int .i64 (BM m 0),.int .i64 (BM m 1),.int .i64 (BM m 2),.int .i64 (BM m 3),.int .i64 (BM m 4),.int .i64 (BM m 5),.int .i64 (BM m 6),.int .i64 (BM m 7)] 36)) (R:=[BM m]) (Nat.le_trans y.out.size S.size) (Blk.new _ _ _) rfl ZbV⟩
    case s2=>
     intro N G S C s I p;refine Cl (by simp[execOp,resolve,invoke,p,go_sem]) (LY _) ?_;rintro e M ⟨A,c,rfl,g,Y⟩;exact⟨_,rfl,Y,⟨A,c,rfl,g.base_mono (Nat.le_trans y.out.size S.size)⟩⟩
   case fin=>
    intro gf N S hF;have f1:=hF 1 _ rfl;have f2:=hF 2 _ rfl;obtain⟨q,L,E,xa⟩:=f1;obtain⟨r,a,J,xd⟩:=f2;simp only[List.length_cons,List.length_nil,Nat.reduceAdd,List.drop_succ_cons,List.drop_zero,List.take_succ_cons,List.take_zero,EG,Act.put,List.setIfInBounds_toArray,List.set_cons_succ,List.set_cons_zero,E,J];replace S:=(Ext.refl wr).drew.trans S;have R:=S.size;have xe:=y.out.size;obtain⟨W,f,Z,b,xc,K⟩:=LR (base:=w.heap.size) (w:=N) (v:=.slice q 1 L) (R:=[BM m]) (S:=revRows) (x:=.slice r revRows.length a) xa xd.rows (by rw[Hl];omega) (by rw[Hl];simp) ZbK;have j:Hid (Ext w Z):=(y.out.trans S).grown' K xa.base_le;replace b:=Ae b;replace xc:=Ae xc;replace xa:=Ae xa;replace xd:=Ae xd;replace S:=Ae S;clear K hF E J;go_wp2_with (at_builtin;go_loud (refine Fx rfl _ _ _ rfl _ _ rfl rfl b.out ?_));go_ret;refine⟨W,f,?_,?_,j.out⟩
    .rw [List.length_cons,Nat.add_comm];rfl
    .have:=xc.out;rw[List.length_cons,Nat.add_comm];exact this
end Go.Proofs.YtcikkglcoeedlaaGreat
