/- Part 11 of the proof of squaresGram_holds. No condition. -/
import Derived.Maps.OwnOps
import Derived.Test.YtnbfnoebjjdmnaaGreatGm10
set_option linter.unusedSimpArgs false
set_option linter.unusedVariables false
set_option maxRecDepth 100000
set_option maxHeartbeats 1600000
namespace Go.Proofs.YtnbfnoebjjdmnaaGreat
open Go.RowKit
theorem FS{P:Program}{w:World}{ops:Array Oper}{rest:List Oper}{o:Oper}{a:Act}{Q:Exit->Act->World->Prop}(hg:o.guard=none)(m x:Operand)(t:TypeId)(hop:o.op=Op.lookup t m x true){vm vx v:Value}(hm:a.eval m=vm)(hx:a.eval x=vx)
  (hr:(Instr.lookup t vm vx true).run P w = .ok v w) (h:wpList P ops Q rest (a.put o.dst v) w):wpList P ops Q (o::rest) a w:=by
 refine wpList_plain hg λK' hK'=>?_
 unfold Oper.wp
 simp [execOp,hop,hm,hx,hr,Result.andThen]
 exact hK' _ _ h
theorem FR{P:Program}{w w':World}{ops:Array Oper}{rest:List Oper}{o:Oper}{a:Act}{Q:Exit->Act->World->Prop}(hg:o.guard=none)(m x y:Operand)(t:TypeId)(hop:o.op=Op.mapUpdate t m x y){vm vx vy:Value}(hm:a.eval m=vm)(hx:a.eval x=vx)(hy:a.eval y=vy)
  (hr:(Instr.mapUpdate t vm vx vy).run P w = .ok () w') (h:wpList P ops Q rest (a.put o.dst undef) w'):wpList P ops Q (o::rest) a w:=by
 refine wpList_plain hg λK' hK'=>?_
 unfold Oper.wp
 simp [execOp,hop,hm,hx,hy,hr,Result.andThen]
 exact hK' _ _ h
theorem MapAt.set{w:World}{B:Nat}{E:List Tm}(h:MapAt w B E){p:Addr}{t:TypeId}(ht:Ty w p.block t)(hne:t≠108)(u:Value):MapAt (w.setCell p u) B E:=by
 have hB:B≠p.block:=λe=>h.notU t (by rw [e];exact ht)
 obtain ⟨es,clock,h1,h2,h3,h4⟩:=h
 refine ⟨es,clock,(Below.heap_setCell w p u B hB).trans h1,h2,λi e hi=>?_,h4⟩
 obtain ⟨b,b',A,A',m,c,m',c',h5,h6⟩:=h3 i e hi
 exact ⟨b,b',A,A',m,c,m',c',h5,h6.set ht hne u⟩
theorem Jw{w w1 w2:World}{B:Nat}(h:Ext w w1)(hg:w1.grownBy w2 (some B)):w.grownBy w2 (some B):=by
 obtain ⟨h1,h2,h3,h4,h5⟩:=h
 exact ⟨hg.os.trans h1,hg.tape.trans h2,hg.output.trans h3,Nat.le_trans h4 hg.size,λk hk hne=>(hg.block k (Nat.lt_of_lt_of_le hk h4) hne).trans (h5 k hk)⟩
theorem Zk{w:World}{g b:Nat}{t:TypeId}{cs:Array Value}(h:Blk w g t cs)(hne:g≠b)(u0 u1 u2 u3:Value):Blk (put4 w b u0 u1 u2 u3) g t cs:=by
 unfold Blk put4 at *
 rw [Below.heap_setCell _ _ _ _ hne,Below.heap_setCell _ _ _ _ hne,Below.heap_setCell _ _ _ _ hne,Below.heap_setCell _ _ _ _ hne]
 exact h
theorem Zl{w:World}{g:Nat}{t:TypeId}{v0 v1 v2 v3:Value}(h:Blk w g t #[v0,v1,v2,v3])(u0 u1 u2 u3:Value):Blk (put4 w g u0 u1 u2 u3) g t #[u0,u1,u2,u3]:=(((h.set 0 u0).set 1 u1).set 2 u2).set 3 u3
def Coll(E:List Tm)(q:Rat)(a:Nat->Int)(E':List Tm):Prop:=((∀t∈E,¬Eqv a t.m)/\E'=E++[⟨q,a⟩])\/∃i,i<E.length/\Eqv a (AZ E i).m/\E'=E.set i ⟨(AZ E i).c+q,a⟩
theorem Coll.length{E E':List Tm}{q:Rat}{a:Nat->Int}(h:Coll E q a E'):E'.length<=E.length+1:=by
 rcases h with ⟨_,rfl⟩ | ⟨i,_,_,rfl⟩<;>simp
theorem UC(f:(Nat->Int)->Rat):∀(E:List Tm) (i:Nat) (u:Tm),i<E.length->Dl f (E.set i u)=Dl f E+(u.c*f u.m-(AZ E i).c*f (AZ E i).m)
 | [],i,u,h=>by simp at h
 | t::E,0,u,h=>by
  show u.c*f u.m+Dl f E=t.c*f t.m+Dl f E+(u.c*f u.m-t.c*f t.m)
  grind
 | t::E,i+1,u,h=>by
  show t.c*f t.m+Dl f (E.set i u)=t.c*f t.m+Dl f E+(u.c*f u.m-(AZ E i).c*f (AZ E i).m)
  rw [UC f E i u (by simpa using h)]
  grind
theorem Coll.sim{E E':List Tm}{q:Rat}{a:Nat->Int}(h:Coll E q a E'):Sim E' (E++[⟨q,a⟩]):=by
 rcases h with ⟨_,rfl⟩ | ⟨i,hi,he,rfl⟩
 .exact Sim.refl _
 .intro f hf
  rw [UC f E i _ hi,Dk]
  simp only [Dl]
  rw [hf _ _ he]
  grind
theorem Coll.sz{E E':List Tm}{q:Rat}{a:Nat->Int}(h:Coll E q a E'){N M:Nat}(hE:PSz E N)(hq:RSz q M):PSz E' (N+M+1):=by
 rcases h with ⟨_,rfl⟩ | ⟨i,hi,he,rfl⟩
 .intro t ht
  rcases List.mem_append.1 ht with ht | ht
  .exact (hE t ht).mono (by omega)
  .have:t=⟨q, a⟩:=by simpa using ht
   rw [this];exact hq.mono (by omega)
 .intro t ht
  rcases List.mem_or_eq_of_mem_set ht with ht | rfl
  .exact (hE t ht).mono (by omega)
  .exact (hE _ (CY hi)).add hq
theorem Coll.in_{E E':List Tm}{q:Rat}{a:Nat->Int}(h:Coll E q a E'){lo hi:Int}(hE:PIn E lo hi)(ha:In8 a lo hi):PIn E' lo hi:=by
 rcases h with ⟨_,rfl⟩ | ⟨i,hi,he,rfl⟩
 .intro t ht
  rcases List.mem_append.1 ht with ht | ht
  .exact hE t ht
  .have:t=⟨q, a⟩:=by simpa using ht
   rw [this];exact ha
 .intro t ht
  rcases List.mem_or_eq_of_mem_set ht with ht | rfl
  .exact hE t ht
  .exact ha
theorem VN{E:List Tm}{a:Nat->Int}(h:¬∀t∈E,¬Eqv a t.m):∃i,i<E.length/\Eqv a (AZ E i).m:=by
 simp only [Classical.not_forall,Classical.not_not] at h
 obtain ⟨t,ht,he⟩:=h
 obtain ⟨i,hi,rfl⟩:=List.mem_iff_getElem.1 ht
 exact ⟨i,hi,by unfold AZ;rw [List.getD_eq_getElem?_getD,List.getElem?_eq_getElem hi];exact he⟩
theorem Rj(b b':Bool)(A A':Option Addr)(n c n' c':Nat)(q:Rat)(a:Nat->Int)(B:Nat)(E:List Tm)(N M:Nat)(w:World)(hm:MapAt w B E)(hq:IsRat w (.bool b) (.slice A n c) (.bool b') (.slice A' n' c') q)(hE:PSz E N)(hM:RSz q M)(hN:N+M+1<=4398046511104) :
  Calls Tryz.prog 80 #[.map (some B),.agg #[.bool b,.slice A n c,.bool b',.slice A' n' c'],.agg #[.int .i64 (a 0),.int .i64 (a 1),.int .i64 (a 2),.int .i64 (a 3),.int .i64 (a 4),.int .i64 (a 5),.int .i64 (a 6),.int .i64 (a 7)]] w λe w'=>e = .returned (.tuple #[])/\w.grownBy w' (some B)/\∃E',Coll E q a E'/\MapAt w' B E':=by
 have hb4:Hid (Blk ((w.alloc (.cells #[.bool b,.slice A n c,.bool b',.slice A' n' c'] 42)).alloc (.cells #[.int .i64 (a 0),.int .i64 (a 1),.int .i64 (a 2),.int .i64 (a 3),.int .i64 (a 4),.int .i64 (a 5),.int .i64 (a 6),.int .i64 (a 7)] 60)) w.heap.size 42 #[.bool b,.slice A n c,.bool b',.slice A' n' c']):=(Blk.new _ _ _).alloc _
 have hb5:Hid (Blk ((w.alloc (.cells #[.bool b,.slice A n c,.bool b',.slice A' n' c'] 42)).alloc (.cells #[.int .i64 (a 0),.int .i64 (a 1),.int .i64 (a 2),.int .i64 (a 3),.int .i64 (a 4),.int .i64 (a 5),.int .i64 (a 6),.int .i64 (a 7)] 60)) (w.heap.size+1) 60 (c8 a)):=AW _ _ (by simp)
 have hEw:Hid (Ext w ((w.alloc (.cells #[.bool b,.slice A n c,.bool b',.slice A' n' c'] 42)).alloc (.cells #[.int .i64 (a 0),.int .i64 (a 1),.int .i64 (a 2),.int .i64 (a 3),.int .i64 (a 4),.int .i64 (a 5),.int .i64 (a 6),.int .i64 (a 7)] 60))):=((Ext.refl _).alloc _).alloc _
 have hMa:=Ac (hm.ext hEw.out)
 have hBl:B<w.heap.size:=hm.lt
 replace hq:=Ac (hq.ext hEw.out)
 clear hm
 by_cases hn:∀t∈E,¬Eqv a t.m
 .have hlook:=Ac (hMa.out.look_none hn)
  replace hn:=Ac hn
  go_enter Tryz.func80,Tryz.ntmps80
  go_upto_region 1 with (fail)
  generalize ((w.alloc (.cells #[.bool b,.slice A n c,.bool b',.slice A' n' c'] 42)).alloc (.cells #[.int .i64 (a 0),.int .i64 (a 1),.int .i64 (a 2),.int .i64 (a 3),.int .i64 (a 4),.int .i64 (a 5),.int .i64 (a 6),.int .i64 (a 7)] 60))=wa at *
  obtain ⟨B4,hB4⟩:∃B4,B4=w.heap.size:=⟨_,rfl⟩
  rw [<-hB4] at hb4 hb5 hBl ⊢
  replace hB4:=Ac hB4
  have x0:(wa).cell? ⟨B4+1,0,none⟩=some (.int .i64 (a 0)):=(hb5.out).cell 0
  have x1:(wa).cell? ⟨B4+1,1,none⟩=some (.int .i64 (a 1)):=(hb5.out).cell 1
  have x2:(wa).cell? ⟨B4+1,2,none⟩=some (.int .i64 (a 2)):=(hb5.out).cell 2
  have x3:(wa).cell? ⟨B4+1,3,none⟩=some (.int .i64 (a 3)):=(hb5.out).cell 3
  have x4:(wa).cell? ⟨B4+1,4,none⟩=some (.int .i64 (a 4)):=(hb5.out).cell 4
  have x5:(wa).cell? ⟨B4+1,5,none⟩=some (.int .i64 (a 5)):=(hb5.out).cell 5
  have x6:(wa).cell? ⟨B4+1,6,none⟩=some (.int .i64 (a 6)):=(hb5.out).cell 6
  have x7:(wa).cell? ⟨B4+1,7,none⟩=some (.int .i64 (a 7)):=(hb5.out).cell 7
  have hb5':=Ac (hb5.out.ext ((Ext.refl wa).alloc (.cells #[.bool false,.slice none 0 0,.bool false,.slice none 0 0] 42)))
  have hb4':=Ac (hb4.out.ext ((Ext.refl wa).alloc (.cells #[.bool false,.slice none 0 0,.bool false,.slice none 0 0] 42)))
  have hMb:=Ac (hMa.out.ext ((Ext.refl wa).alloc (.cells #[.bool false,.slice none 0 0,.bool false,.slice none 0 0] 42)))
  have hqb:=Ac (hq.out.ext ((Ext.refl wa).alloc (.cells #[.bool false,.slice none 0 0,.bool false,.slice none 0 0] 42)))
  have hEb:=Ac (hEw.out.trans ((Ext.refl wa).alloc (.cells #[.bool false,.slice none 0 0,.bool false,.slice none 0 0] 42)))
  go_upto_region 4 with (first | (at_lookup;refine FS rfl _ _ 114 rfl rfl rfl hlook.out ?_) | go_in)
  clear x0 x1 x2 x3 x4 x5 x6 x7
  generalize (wa.alloc (.cells #[.bool false,.slice none 0 0,.bool false,.slice none 0 0] 42))=wb at *
  have x0:(wb).cell? ⟨B4+1,0,none⟩=some (.int .i64 (a 0)):=(hb5'.out).cell 0
  have x1:(wb).cell? ⟨B4+1,1,none⟩=some (.int .i64 (a 1)):=(hb5'.out).cell 1
  have x2:(wb).cell? ⟨B4+1,2,none⟩=some (.int .i64 (a 2)):=(hb5'.out).cell 2
  have x3:(wb).cell? ⟨B4+1,3,none⟩=some (.int .i64 (a 3)):=(hb5'.out).cell 3
  have x4:(wb).cell? ⟨B4+1,4,none⟩=some (.int .i64 (a 4)):=(hb5'.out).cell 4
  have x5:(wb).cell? ⟨B4+1,5,none⟩=some (.int .i64 (a 5)):=(hb5'.out).cell 5
  have x6:(wb).cell? ⟨B4+1,6,none⟩=some (.int .i64 (a 6)):=(hb5'.out).cell 6
  have x7:(wb).cell? ⟨B4+1,7,none⟩=some (.int .i64 (a 7)):=(hb5'.out).cell 7
  have y0:(wb).cell? ⟨B4,0,none⟩=some (.bool b):=hb4'.out.cell 0
  have y1:(wb).cell? ⟨B4,1,none⟩=some (.slice A n c):=hb4'.out.cell 1
  have y2:(wb).cell? ⟨B4,2,none⟩=some (.bool b'):=hb4'.out.cell 2
  have y3:(wb).cell? ⟨B4,3,none⟩=some (.slice A' n' c'):=hb4'.out.cell 3
  obtain ⟨w',hrun,hM',hg⟩:=hMb.out.put_none hn.out (v:=.agg #[.bool b,.slice A n c,.bool b',.slice A' n' c']) ⟨b,b',A,A',n,c,n',c',rfl,hqb.out⟩
  replace hrun:=Ac hrun
  go_wp2_with (first | (at_mapUpdate;refine FR rfl _ _ _ 114 rfl rfl rfl rfl hrun.out ?_) | go_in)
  refine bodyPost_end (v:=.tuple #[]) (by simp [results,Tryz.results80,go_sem]) rfl ?_
  exact ⟨rfl,Jw hEb.out hg,_,.inl ⟨hn.out,rfl⟩,hM'⟩
 .obtain ⟨i,hi,he⟩:=VN hn
  clear hn
  obtain ⟨v,⟨b1,b1',A1,A1',n1,c1,n1',c1',rfl,hq1⟩,hlook⟩:=hMa.out.look_some hi he (λj hj e=>Jp (by obtain ⟨_,_,_,_,_,_,_,h⟩:=hMa.out;exact h) hj hi (e.symm.trans he))
  replace hlook:=Ac hlook
  replace hq1:=Ac hq1
  replace he:=Ac he
  replace hi:=Ac hi
  go_enter Tryz.func80,Tryz.ntmps80
  go_upto_region 1 with (fail)
  generalize ((w.alloc (.cells #[.bool b,.slice A n c,.bool b',.slice A' n' c'] 42)).alloc (.cells #[.int .i64 (a 0),.int .i64 (a 1),.int .i64 (a 2),.int .i64 (a 3),.int .i64 (a 4),.int .i64 (a 5),.int .i64 (a 6),.int .i64 (a 7)] 60))=wa at *
  have x0:(wa).cell? ⟨w.heap.size+1,0,none⟩=some (.int .i64 (a 0)):=(hb5.out).cell 0
  have x1:(wa).cell? ⟨w.heap.size+1,1,none⟩=some (.int .i64 (a 1)):=(hb5.out).cell 1
  have x2:(wa).cell? ⟨w.heap.size+1,2,none⟩=some (.int .i64 (a 2)):=(hb5.out).cell 2
  have x3:(wa).cell? ⟨w.heap.size+1,3,none⟩=some (.int .i64 (a 3)):=(hb5.out).cell 3
  have x4:(wa).cell? ⟨w.heap.size+1,4,none⟩=some (.int .i64 (a 4)):=(hb5.out).cell 4
  have x5:(wa).cell? ⟨w.heap.size+1,5,none⟩=some (.int .i64 (a 5)):=(hb5.out).cell 5
  have x6:(wa).cell? ⟨w.heap.size+1,6,none⟩=some (.int .i64 (a 6)):=(hb5.out).cell 6
  have x7:(wa).cell? ⟨w.heap.size+1,7,none⟩=some (.int .i64 (a 7)):=(hb5.out).cell 7
  have hb5':=Ac (hb5.out.ext ((Ext.refl wa).alloc (.cells #[.bool b1,.slice A1 n1 c1,.bool b1',.slice A1' n1' c1'] 42)))
  have hb4':=Ac (hb4.out.ext ((Ext.refl wa).alloc (.cells #[.bool b1,.slice A1 n1 c1,.bool b1',.slice A1' n1' c1'] 42)))
  have hMb:=Ac (hMa.out.ext ((Ext.refl wa).alloc (.cells #[.bool b1,.slice A1 n1 c1,.bool b1',.slice A1' n1' c1'] 42)))
  have hqb:=Ac (hq.out.ext ((Ext.refl wa).alloc (.cells #[.bool b1,.slice A1 n1 c1,.bool b1',.slice A1' n1' c1'] 42)))
  have hq1b:=Ac (hq1.out.ext ((Ext.refl wa).alloc (.cells #[.bool b1,.slice A1 n1 c1,.bool b1',.slice A1' n1' c1'] 42)))
  have hEb:=Ac (hEw.out.trans ((Ext.refl wa).alloc (.cells #[.bool b1,.slice A1 n1 c1,.bool b1',.slice A1' n1' c1'] 42)))
  have hb6:Hid (Blk (wa.alloc (.cells #[.bool b1,.slice A1 n1 c1,.bool b1',.slice A1' n1' c1'] 42)) wa.heap.size 42 #[.bool b1,.slice A1 n1 c1,.bool b1',.slice A1' n1' c1']):=Blk.new _ _ _
  go_upto_region 3 with (first | (at_lookup;refine FS rfl _ _ 114 rfl rfl rfl hlook.out ?_) | go_in)
  clear x0 x1 x2 x3 x4 x5 x6 x7
  generalize (wa.alloc (.cells #[.bool b1,.slice A1 n1 c1,.bool b1',.slice A1' n1' c1'] 42))=wb at *
  generalize wa.heap.size=B6 at *
  have y0:(wb).cell? ⟨w.heap.size,0,none⟩=some (.bool b):=hb4'.out.cell 0
  have y1:(wb).cell? ⟨w.heap.size,1,none⟩=some (.slice A n c):=hb4'.out.cell 1
  have y2:(wb).cell? ⟨w.heap.size,2,none⟩=some (.bool b'):=hb4'.out.cell 2
  have y3:(wb).cell? ⟨w.heap.size,3,none⟩=some (.slice A' n' c'):=hb4'.out.cell 3
  have z0:(wb).cell? ⟨B6,0,none⟩=some (.bool b1):=hb6.out.cell 0
  have z1:(wb).cell? ⟨B6,1,none⟩=some (.slice A1 n1 c1):=hb6.out.cell 1
  have z2:(wb).cell? ⟨B6,2,none⟩=some (.bool b1'):=hb6.out.cell 2
  have z3:(wb).cell? ⟨B6,3,none⟩=some (.slice A1' n1' c1'):=hb6.out.cell 3
  go_wp2_with fail
  refine (Qb b1 b1' A1 A1' n1 c1 n1' c1' b b' A A' n c n' c' (AZ E i).c q N M _ hq1b.out hqb.out (hE _ (CY hi.out)) hM hN).mono ?_
  rintro e w2 ⟨b2,b2',A2,A2',n2,c2,n2',c2',rfl,hI2,hE2⟩
  clear y0 y1 y2 y3 z0 z1 z2 z3
  have hb4c:=hb4'.out.ext hE2
  have y0:=hb4c.cell 0
  have y1:=hb4c.cell 1
  have y2:=hb4c.cell 2
  have y3:=hb4c.cell 3
  have f0:=hb4c.frozen 0
  have f1:=hb4c.frozen 1
  have f2:=hb4c.frozen 2
  have f3:=hb4c.frozen 3
  have hty:Ty w2 w.heap.size 42:=hb4c.ty
  have hI3:Hid (IsRat ((((w2.setCell ⟨w.heap.size,0,none⟩ (.bool b2)).setCell ⟨w.heap.size,1,none⟩ (.slice A2 n2 c2)).setCell ⟨w.heap.size,2,none⟩ (.bool b2')).setCell ⟨w.heap.size,3,none⟩ (.slice A2' n2' c2')) (.bool b2) (.slice A2 n2 c2) (.bool b2') (.slice A2' n2' c2') ((AZ E i).c+q)):=hI2.put4 hty (by decide) _ _ _ _
  have hMc:Hid (MapAt ((((w2.setCell ⟨w.heap.size,0,none⟩ (.bool b2)).setCell ⟨w.heap.size,1,none⟩ (.slice A2 n2 c2)).setCell ⟨w.heap.size,2,none⟩ (.bool b2')).setCell ⟨w.heap.size,3,none⟩ (.slice A2' n2' c2')) B E):=(((((hMb.out.ext hE2).set (p:=⟨w.heap.size,0,none⟩) hty (by decide) _).set (p:=⟨w.heap.size,1,none⟩) (hty.set _ _) (by decide) _).set (p:=⟨w.heap.size,2,none⟩) ((hty.set _ _).set _ _) (by decide) _).set (p:=⟨w.heap.size,3,none⟩) (((hty.set _ _).set _ _).set _ _) (by decide) _)
  have hEc:Hid (Ext w ((((w2.setCell ⟨w.heap.size,0,none⟩ (.bool b2)).setCell ⟨w.heap.size,1,none⟩ (.slice A2 n2 c2)).setCell ⟨w.heap.size,2,none⟩ (.bool b2')).setCell ⟨w.heap.size,3,none⟩ (.slice A2' n2' c2'))):=(hEb.out.trans hE2).put4 (Nat.le_refl _) _ _ _ _
  have hne5:w.heap.size+1≠w.heap.size:=by omega
  have hb5c:Hid (Blk ((((w2.setCell ⟨w.heap.size,0,none⟩ (.bool b2)).setCell ⟨w.heap.size,1,none⟩ (.slice A2 n2 c2)).setCell ⟨w.heap.size,2,none⟩ (.bool b2')).setCell ⟨w.heap.size,3,none⟩ (.slice A2' n2' c2')) (w.heap.size+1) 60 (c8 a)):=Zk (hb5'.out.ext hE2) hne5 _ _ _ _
  have hb4d:Hid (Blk ((((w2.setCell ⟨w.heap.size,0,none⟩ (.bool b2)).setCell ⟨w.heap.size,1,none⟩ (.slice A2 n2 c2)).setCell ⟨w.heap.size,2,none⟩ (.bool b2')).setCell ⟨w.heap.size,3,none⟩ (.slice A2' n2' c2')) w.heap.size 42 #[.bool b2,.slice A2 n2 c2,.bool b2',.slice A2' n2' c2']):=Zl hb4c _ _ _ _
  replace hb4c:=Ac hb4c
  replace hty:=Ac hty
  replace hI2:=Ac hI2
  replace hE2:=Ac hE2
  go_upto_region 4 with (fail)
  clear y0 y1 y2 y3 f0 f1 f2 f3 hb4c hty hE2 hI2
  generalize ((((w2.setCell ⟨w.heap.size,0,none⟩ (.bool b2)).setCell ⟨w.heap.size,1,none⟩ (.slice A2 n2 c2)).setCell ⟨w.heap.size,2,none⟩ (.bool b2')).setCell ⟨w.heap.size,3,none⟩ (.slice A2' n2' c2'))=wz at *
  have x0:(wz).cell? ⟨w.heap.size+1,0,none⟩=some (.int .i64 (a 0)):=(hb5c.out).cell 0
  have x1:(wz).cell? ⟨w.heap.size+1,1,none⟩=some (.int .i64 (a 1)):=(hb5c.out).cell 1
  have x2:(wz).cell? ⟨w.heap.size+1,2,none⟩=some (.int .i64 (a 2)):=(hb5c.out).cell 2
  have x3:(wz).cell? ⟨w.heap.size+1,3,none⟩=some (.int .i64 (a 3)):=(hb5c.out).cell 3
  have x4:(wz).cell? ⟨w.heap.size+1,4,none⟩=some (.int .i64 (a 4)):=(hb5c.out).cell 4
  have x5:(wz).cell? ⟨w.heap.size+1,5,none⟩=some (.int .i64 (a 5)):=(hb5c.out).cell 5
  have x6:(wz).cell? ⟨w.heap.size+1,6,none⟩=some (.int .i64 (a 6)):=(hb5c.out).cell 6
  have x7:(wz).cell? ⟨w.heap.size+1,7,none⟩=some (.int .i64 (a 7)):=(hb5c.out).cell 7
  have y0:(wz).cell? ⟨w.heap.size,0,none⟩=some (.bool b2):=hb4d.out.cell 0
  have y1:(wz).cell? ⟨w.heap.size,1,none⟩=some (.slice A2 n2 c2):=hb4d.out.cell 1
  have y2:(wz).cell? ⟨w.heap.size,2,none⟩=some (.bool b2'):=hb4d.out.cell 2
  have y3:(wz).cell? ⟨w.heap.size,3,none⟩=some (.slice A2' n2' c2'):=hb4d.out.cell 3
  obtain ⟨w',hrun,hM',hg⟩:=hMc.out.put_some hi.out he.out (v:=.agg #[.bool b2,.slice A2 n2 c2,.bool b2',.slice A2' n2' c2']) ⟨b2,b2',A2,A2',n2,c2,n2',c2',rfl,hI3.out⟩
  replace hrun:=Ac hrun
  go_wp2_with (first | (at_mapUpdate;refine FR rfl _ _ _ 114 rfl rfl rfl rfl hrun.out ?_) | go_in)
  refine bodyPost_end (v:=.tuple #[]) (by simp [results,Tryz.results80,go_sem]) rfl ?_
  exact ⟨rfl,Jw hEc.out hg,_,.inr ⟨i,hi.out,he.out,rfl⟩,hM'⟩
end Go.Proofs.YtnbfnoebjjdmnaaGreat
