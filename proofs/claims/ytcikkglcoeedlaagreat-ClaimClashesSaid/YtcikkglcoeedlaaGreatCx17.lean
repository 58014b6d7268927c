/- Part 17 of the proof of claimClashes_holds. No condition. -/
import Derived.Test.YtcikkglcoeedlaaGreatCx5
import Derived.Test.YtcikkglcoeedlaaGreatCx9
set_option linter.unusedSimpArgs false
set_option linter.unusedVariables false
set_option maxRecDepth 100000
set_option maxHeartbeats 1600000
namespace Go.Proofs.YtcikkglcoeedlaaGreat
open Go.RowKit
variable{n b:Nat}{w h:World}
theorem VK(a b:Nat->Int)(k n:Nat):HA a b k (n+1)=if a k<b k then -1 else if b k<a k then 1 else HA a b (k+1) n:=by
 have W:Kg a b k=a k-b k:=rfl;have u:a k<b k↔Kg a b k<0:=by rw[W];omega
 have A:b k<a k↔0<Kg a b k:=by rw[W];omega
 rw[JO,JO,DL];simp only[u,A];generalize Kg a b k=d;by_cases h:d=0
 .subst h;simp
 .rw [if_neg h]
  by_cases I:d<0
  .simp [I]
  .simp [I,show 0<d by omega]
theorem ZC(a b:Nat->Int)(w:World) :
  Calls Tryz.prog 229 #[.agg #[.int .i64 (a 0),.int .i64 (a 1),.int .i64 (a 2),.int .i64 (a 3),.int .i64 (a 4),.int .i64 (a 5),.int .i64 (a 6),.int .i64 (a 7)],.agg #[.int .i64 (b 0),.int .i64 (b 1),.int .i64 (b 2),.int .i64 (b 3),.int .i64 (b 4),.int .i64 (b 5),.int .i64 (b 6),.int .i64 (b 7)]] w λe O=>e=.returned (.int .i64 (IE a b))/\Ext w O:=by
 go_enter Tryz.func229,Tryz.ntmps229;go_wp2;go_loopw [5] (λi wr=>∃k:Nat,k<=8/\i=.int .i64 k/\Hid (IE a b=HA a b k (8-k)/\Blk wr w.heap.size 112 (c8 a)/\Blk wr (w.heap.size+1) 112 (c8 b)/\Ext w wr)) (λi _=>8-(intOf i).toNat)
 case atStart=>exact⟨0,by omega,rfl,rfl,(Blk.new _ _ _).alloc _,ER _ _ ZbK,((Ext.refl _).alloc _).alloc _⟩
 case round=>
  obtain⟨k,B,rfl,Z⟩:=hrel;by_cases Q:k<8
  .have E:decide ((k:Int)<8)=true:=ZgC
   have F:=Z.out.2.1.at8 Q;have l:=Z.out.2.2.1.at8 Q;have C:Hid (HA a b k (8-k)=if a k<b k then -1 else if b k<a k then 1 else HA a b (k+1) (8-(k+1))):=by rw[show 8-k=(8-(k+1))+1 by omega];exact VK a b k _
   generalize a k=x at *;generalize b k=y at *;by_cases u:x<y
   .have h:=C.out
    rw[if_pos u]at h;replace h:=Ae h;clear C;go_wp2;go_quiet (fail);go_wp2;go_ret;exact⟨by rw[Z.out.1,h.out];rfl,Z.out.2.2.2.drewN _⟩
   .by_cases A:y<x
    .have h:=C.out
     rw[if_neg u,if_pos A]at h;replace h:=Ae h;clear C;go_wp2;go_quiet (fail);go_wp2;go_quiet (fail);go_wp2;go_ret;exact⟨by rw[Z.out.1,h.out];rfl,(Z.out.2.2.2.drewN _).drewN _⟩
    .have h:=C.out
     rw[if_neg u,if_neg A]at h;replace h:=Ae h;clear C;go_wp2;go_quiet (fail);go_wp2;go_quiet (fail);go_wp2;exact⟨⟨k+1,Q,by simp,by rw[Z.out.1,h.out],Z.out.2.1,Z.out.2.2.1,Z.out.2.2.2.drewN _⟩,by simp[intOf];omega⟩
  .obtain rfl:k=8:=by omega
   have E:decide (((8:Nat):Int)<8)=false:=by simp
   go_wp2;go_ret;exact⟨by rw[Z.out.1];rfl,Z.out.2.2.2⟩
theorem A1y(w:World):Calls Tryz.prog 129 #[] w (Lx [] w):=by
 go_enter Tryz.func129,Tryz.ntmps129;go_wp2;go_ret;exact⟨_,_,rfl,OwnRows.blk (R:=[]) (Nat.le_refl _) (Blk.new _ _ _) rfl ZbK,(Ext.refl _).alloc _⟩
theorem A2q:(rl [BH 255]).toArray=#[.int .i64 1,.int .i64 1,.int .i64 1,.int .i64 1,.int .i64 1,.int .i64 1,.int .i64 1,.int .i64 1]:=rfl
theorem Nk(w:World):Calls Tryz.prog 130 #[] w (Lx [BH 255] w):=by
 go_enter Tryz.func130,Tryz.ntmps130;go_wp2;go_ret;exact⟨_,_,rfl,OwnRows.blk (R:=[BH 255]) (Nat.le_refl _) (by rw[A2q];exact Blk.new _ _ _) rfl ZbK,(Ext.refl _).alloc _⟩
theorem Zz(i:Nat)(n:Int)(w:World)(K:i<8) :
  Calls Tryz.prog 231 #[.int .i64 i,.int .i64 n] w λe O=>e=.returned (.agg #[.int .i64 (Jf i n 0),.int .i64 (Jf i n 1),.int .i64 (Jf i n 2),.int .i64 (Jf i n 3),.int .i64 (Jf i n 4),.int .i64 (Jf i n 5),.int .i64 (Jf i n 6),.int .i64 (Jf i n 7)])/\Ext w O:=by
 rcases lt8 K with rfl | rfl | rfl | rfl | rfl | rfl | rfl | rfl
 all_goals
  go_enter Tryz.func231,Tryz.ntmps231;go_wp2;refine bodyPost_ret (v:=.agg (c8 (Jf _ n))) ?_ rfl ⟨rfl,?_⟩
  .simp [results,Tryz.results231,go_sem,Jf,c8]
  .exact ((Ext.refl _).alloc _).alloc _
theorem YN(k:Nat):Jf k (-1)=DH k:=rfl
theorem Ly(w:World):Calls Tryz.prog 131 #[] w (Lx revRows w):=by
 go_enter Tryz.func131,Tryz.ntmps131;go_wp2_with fail;refine(Nk _).mono ?_;rintro e a ⟨K,p,rfl,N,I⟩;replace N:=Ae N;replace I:=Ae I;go_wp2;go_loopw [1,2] (λv i wr=>∃(k:Nat) (R:List (Nat->Int)) (A:Option Addr) (c:Nat),k<=7/\i=.int .i64 k/\v=.slice A R.length c/\Hid (R++Gx k=revRows/\OwnRows 36 w.heap.size wr (.slice A R.length c) R/\Ext w wr)) (λ_ i _=>(intOf i).toNat)
 case atStart=>exact⟨7,[BH 255],_,_,by omega,rfl,rfl,rfl,N.out,I.out⟩
 case round=>
  obtain⟨k,R,A,c,B,rfl,rfl,Z⟩:=hrel;clear N I
  match k,B,Z with
  |0,B,Z=>
   have e:R=revRows:=by have:=Z.out.1;rwa [Gx,List.append_nil]at this
   subst e;go_wp2;go_ret;exact⟨A,c,rfl,Z.out.2.1,Z.out.2.2⟩
  |k+1,B,Z=>
   have g:Hid (R++[DH (k+1)]++Gx k=revRows):=by have:=Z.out.1;rw[Gx]at this;rw[<-this];show _++_++_=_;rw[List.append_assoc];rfl
   have L:R.length<=8:=by have:=congrArg List.length Z.out.1;rw[GO,List.length_append,GN]at this;omega
   have E:decide (0<k+1)=true:=by simp
   have F:((k+1:Nat):Int)-1=k:=by omega
   obtain⟨n,h⟩:∃n,n=k+1:=⟨_,rfl⟩;have Q:n<8:=by omega
   have o:0<n:=by omega
   rw[<-h]at g E F ⊢;replace h:=Ae h;replace F:=Ae F;go_wp2_with fail;refine(Zz n (-1) _ Q).mono ?_;rintro e C ⟨rfl,z⟩;rw[YN]at *
   obtain⟨u,r,O,q,s,G⟩:=Lr (base:=w.heap.size) (w:=C.alloc (.cells #[.int .i64 (DH n 0),.int .i64 (DH n 1),.int .i64 (DH n 2),.int .i64 (DH n 3),.int .i64 (DH n 4),.int .i64 (DH n 5),.int .i64 (DH n 6),.int .i64 (DH n 7)] 36)) (S:=[DH n]) (x:=.slice (some ⟨C.heap.size,0,none⟩) 1 1)
    ((Z.out.2.1.ext z).ext ((Ext.refl _).alloc _)) (OwnRows.blk (R:=[DH n]) (c:=1) (base:=0) (g:=C.heap.size) (Nat.zero_le _) (Blk.new _ _ _) rfl ZbK).rows ZbK ZgC (by have:=Z.out.2.2.size;have:=z.size;simp;omega)
   have M:Hid (Ext w O):=((Z.out.2.2.trans z).alloc _).grown' G Z.out.2.1.base_le;replace q:=Ae q;replace s:=Ae s;clear G;go_wp2_with (at_builtin;go_loud (refine Fj rfl _ _ _ rfl _ _ rfl rfl q.out ?_));exact⟨⟨k,R++[DH n],u,r,by omega,by rw[F.out],by simp,g.out,by simpa using s.out,M.out⟩,by have:=h.out;simp[intOf];omega⟩
def OwnV(base:Nat)(v:Value)(w:World)(R:List (Nat->Int)):Prop:=∃A c,v=.slice A R.length c/\OwnRows 36 base w (.slice A R.length c) R
theorem OwnV.ext{base:Nat}{v:Value}{R:List (Nat->Int)}(u:OwnV base v w R)(a:Ext w h):OwnV base v h R:=by
 obtain⟨A,c,B,C⟩:=u;exact⟨A,c,B,C.ext a⟩
theorem Blk.skip8{t:TypeId}{a:Nat->Int}(h:Blk w n t (Go.Proofs.YtcikkglcoeedlaaGreat.c8 (Qf a b)))(B:a b=0):Blk w n t (Go.Proofs.YtcikkglcoeedlaaGreat.c8 (Qf a (b+1))):=by
 rw[Lp (b:=Qf a b) λi _=>?_]
 .exact h
 .by_cases u:i<b
  .rw [Is u,Is Zbx]
  .rw [Nx u]
   by_cases A:i=b
   .rw [A,Is Zbx,B]
   .rw [Nx Zbx]
theorem Mr(m:Nat)(w:World)(s:m<256):Calls Tryz.prog 132 #[.int .u8 m] w (Lx (BH m::revRows) w):=by
 go_enter Tryz.func132,Tryz.ntmps132;go_wp2;go_loopw [4] (λi wr=>∃k:Nat,k<=8/\i=.int .i64 k/\Hid (Blk wr w.heap.size 36 (c8 (Qf (BH m) k))/\Ext w wr)) (λi _=>8-(intOf i).toNat)
 case atStart=>exact⟨0,by omega,rfl,Blk.new _ _ _,(Ext.refl _).alloc _⟩
 case round=>
  obtain⟨k,B,rfl,Z⟩:=hrel;by_cases Q:k<8
  .have xf:decide ((k:Int)<8)=true:=ZgC
   go_wp2_with fail;refine(A53 m k _ s Q).mono ?_;rintro e _ ⟨rfl,rfl⟩;have xb:=Ae (VC (m:=m) (i:=k))
   cases E:m.testBit k with
   |true=>
    have u:Hid (BH m k=1):=by rw[xb.out,E];rfl
    have l:=Z.out.1.at8 Q;have J:=Z.out.1.frozen k;replace E:=Ae E;clear xb;go_wp2;exact⟨⟨k+1,Q,by simp,Z.out.1.up8 Q u.out.symm,Z.out.2.set (p:=⟨w.heap.size,k,none⟩) (Nat.le_refl _) _⟩,by simp[intOf];omega⟩
   |false=>
    have u:Hid (BH m k=0):=by rw[xb.out,E];rfl
    replace E:=Ae E;clear xb;go_wp2;exact⟨⟨k+1,Q,by simp,Z.out.1.skip8 u.out,Z.out.2⟩,by simp[intOf];omega⟩
  .obtain rfl:k=8:=by omega
   have Y:=Ae Z.out.1.full8;have z:=Ae Z.out.2;clear Z;have xf:decide (((8:Nat):Int)<8)=false:=by simp
   go_upto_region 7 with(fail)
   obtain⟨f,y⟩:∃f,f=w.heap.size:=⟨_,rfl⟩;rw[<-y]at Y ⊢;replace y:=Ae y
   refine wp_region_v Zbz [[], [(15, 0)], []] [[], [0], []]
    [λv _=>v=.agg #[.int .i64 (BH m 0),.int .i64 (BH m 1),.int .i64 (BH m 2),.int .i64 (BH m 3),.int .i64 (BH m 4),.int .i64 (BH m 5),.int .i64 (BH m 6),.int .i64 (BH m 7)],λv O=>OwnV w.heap.size v O [BH m],λv O=>OwnV w.heap.size v O revRows]
    rfl Zbz Zbz ?stab ?steps ?fin
   case stab=>exact .cons (Stab.eq _) (.cons (λ_ _ _ a h=>h.ext a) (.cons (λ_ _ _ a h=>h.ext a) .nil))
   case steps=>
    refine .cons ?s0 (.cons ?s1 (.cons ?s2 .nil))
    case s0=>
     intro O j X B t G p;have U:j (.tmp 3)=.pointer (some ⟨f,0,none⟩):=t 3 ZbA;have L:O.cell? ⟨f,0,none⟩=some (.int .i64 (BH m 0)):=X.cellv (Y.out.cell 0);have K:O.cell? ⟨f,1,none⟩=some (.int .i64 (BH m 1)):=X.cellv (Y.out.cell 1);have b:O.cell? ⟨f,2,none⟩=some (.int .i64 (BH m 2)):=X.cellv (Y.out.cell 2);have g:O.cell? ⟨f,3,none⟩=some (.int .i64 (BH m 3)):=X.cellv (Y.out.cell 3);have x:O.cell? ⟨f,4,none⟩=some (.int .i64 (BH m 4)):=X.cellv (Y.out.cell 4);have H:O.cell? ⟨f,5,none⟩=some (.int .i64 (BH m 5)):=X.cellv (Y.out.cell 5);have P:O.cell? ⟨f,6,none⟩=some (.int .i64 (BH m 6)):=X.cellv (Y.out.cell 6);have c7:O.cell? ⟨f,7,none⟩=some (.int .i64 (BH m 7)):=X.cellv (Y.out.cell 7);exact AA (by simp[execOp,U,L,K,b,g,x,H,P,c7,go_sem]) rfl
    case s1=>
     intro O j X B t G p;have T:j (.tmp 15)=.agg #[.int .i64 (BH m 0),.int .i64 (BH m 1),.int .i64 (BH m 2),.int .i64 (BH m 3),.int .i64 (BH m 4),.int .i64 (BH m 5),.int .i64 (BH m 6),.int .i64 (BH m 7)]:=B.1 _ rfl;exact TH (by simp[execOp,T,go_sem]) ((Ext.refl _).alloc _) ⟨_,_,rfl,OwnRows.blk (w:=O.alloc (.cells #[.int .i64 (BH m 0),.int .i64 (BH m 1),.int .i64 (BH m 2),.int .i64 (BH m 3),.int .i64 (BH m 4),.int .i64 (BH m 5),.int .i64 (BH m 6),.int .i64 (BH m 7)] 36)) (R:=[BH m]) (Nat.le_trans z.out.size X.size) (Blk.new _ _ _) rfl ZbK⟩
    case s2=>
     intro O j X B t G p;refine CD (by simp[execOp,resolve,invoke,p,go_sem]) (Ly _) ?_;rintro e I ⟨A,c,rfl,V,R⟩;exact⟨_,rfl,R,⟨A,c,rfl,V.base_mono (Nat.le_trans z.out.size X.size)⟩⟩
   case fin=>
    intro gf O X hF;have f1:=hF 1 _ rfl;have f2:=hF 2 _ rfl;obtain⟨n,K,d,xa⟩:=f1;obtain⟨o,b,C,xe⟩:=f2;simp only[List.length_cons,List.length_nil,Nat.reduceAdd,List.drop_succ_cons,List.drop_zero,List.take_succ_cons,List.take_zero,EM,Act.put,List.setIfInBounds_toArray,List.set_cons_succ,List.set_cons_zero,d,C];replace X:=(Ext.refl wr).drew.trans X;have M:=X.size;have xc:=z.out.size;obtain⟨S,r,N,q,xd,F⟩:=Lr (base:=w.heap.size) (w:=O) (v:=.slice n 1 K) (R:=[BH m]) (S:=revRows) (x:=.slice o revRows.length b) xa xe.rows (by rw[GO];omega) (by rw[GO];simp) Zbx;have W:Hid (Ext w N):=(z.out.trans X).grown' F xa.base_le;replace q:=Ae q;replace xd:=Ae xd;replace xa:=Ae xa;replace xe:=Ae xe;replace X:=Ae X;clear F hF d C;go_wp2_with (at_builtin;go_loud (refine Fj rfl _ _ _ rfl _ _ rfl rfl q.out ?_));go_ret;refine⟨S,r,?_,?_,W.out⟩
    .rw [List.length_cons,Nat.add_comm];rfl
    .have:=xd.out;rw[List.length_cons,Nat.add_comm];exact this
end Go.Proofs.YtcikkglcoeedlaaGreat
