/-
  Walks of package integer: digits, read.; strings.Builder once more, with all that it leaves alone; strings.Repeat of a zero.
-/
import Derived.Test.YtapnkgdnflofbaaGreatDoorCHBI1
import Derived.Test.YtapnkgdnflofbaaGreatDoorCH01
import Derived.Test.YtapnkgdnflofbaaGreatDoorCHShelfD
set_option maxRecDepth 100000
set_option maxHeartbeats 2000000
namespace Go.Proofs.YtapnkgdnflofbaaGreatDoor
section
open Go.RowKit Go.Shelf Kp
attribute [local go_sem] Oper.semAt_some
def UpN{N:Nat}(k:Nat)(pre:List (PlN N)):Prop:=pre.map (·.1)=zhA (fun j=>j) k
theorem UpN.len{N k:Nat}{pre:List (PlN N)}(h:UpN k pre):pre.length=k:=by
 have:=congrArg List.length h
 rw[List.length_map,zeu]at this;exact this
theorem UpN.next{N k:Nat}{pre:List (PlN N)}(h:UpN k pre)(x:PlN N)(hx:x.1=k):UpN (k+1) (pre++[x]):=by
 unfold UpN at h ⊢
 rw[zgH,List.map_append,h];simp[hx]
def zr8{N:Nat}(pre:List (PlN N))(x:PlN N):Prop:=x.1=pre.length
def zmi(s:Str)(i:Nat):Int:=((at0 s (s.length - 1 - i)).toNat:Int) - 48
theorem zn2{s:Str}(hd:zay s){i:Nat}(hi:i<s.length):0≤zmi s i∧zmi s i≤9:=by
 have h:zar (at0 s (s.length - 1 - i))=true:=by
  rw[zcJ s _ (by omega)];exact hd _ (List.getElem_mem _)
 have:=(zcC _).1 h
 unfold zmi;omega
theorem zpc(m:Nat)(hm:1≤m)(l Bs:Nat)(s:Str)(hd:zay s)(hlen:s.length≤1000000)(J Jx:List (PlN s.length)→World→Prop)
  (hY:∀ pre x W,J pre W→zr8 pre x→YieldAt Fence.wide (m - 1) Tryz.prog l #[.int .i64 (x.1:Nat),.int .i64 (zmi s x.1)] W fun e W' =>
   (e=.returned (.bool true)∧J (pre++[x]) W'∧zI [Bs] W W')∨(e=.returned (.bool false)∧Jx (pre++[x]) W'))
  (W:World) (hBs:W.cell? ⟨Bs,0,none⟩=some (.string ⟨s.toArray⟩)) (h0:J [] W) :
  CallsIn Fence.wide m Tryz.prog 264 #[.func (.yield l) #[] #[],.pointer (some ⟨Bs,0,none⟩)] W fun e W'=>(∃ v,e=.returned v) ∧
   ((∃ ys,UpN s.length ys∧J ys W')∨(∃ pre,(∃ k,k≤s.length∧UpN k pre)∧Jx pre W')):=by
 refine callsIn_of_wp Tryz.func264 rfl trivial ?_ rfl
 simp only[Tryz.ntmps264,List.size_toArray,List.length_cons,List.length_nil,Nat.reduceAdd,Nat.reduceSub,Array.replicate_succ,Array.replicate_zero,List.push_toArray,List.append_toArray,List.nil_append,List.cons_append]
 gi_wp2
 gi_loopw [6] (fun i wr=>∃ k:Nat,k≤s.length∧i=.int .i64 k∧(∃ pre,UpN k pre∧J pre wr)∧zI [Bs] W wr) (fun i _=>s.length - (intOf i).toNat)
 case atStart=>exact⟨0,Nat.zero_le _,by simp,⟨[],rfl,h0⟩,zI.refl _ _⟩
 case round =>
  obtain⟨k,hk,rfl,⟨pre,hpre,hJs⟩,hnx⟩:=hrel
  have hBs2:=hnx.cell (by simp) hBs
  by_cases hlt:k<s.length
  ·have hYk:=hY pre ⟨k,hlt⟩ wr hJs hpre.len.symm
   have hnext:=hpre.next ⟨k,hlt⟩ rfl
   obtain⟨fn,tmps,assign,body,hy,hR⟩:=hYk
   have hbd:=zn2 hd hlt
   obtain⟨j,hj⟩:∃ j,s.length - 1 - k=j:=⟨_,rfl⟩
   have hji:(s.length:Int) - 1 - (k:Int)=(j:Int):=by omega
   have hjl:j<s.length:=by omega
   have hjl2:(j:Int)<(s.length:Int):=by omega
   have hj0:(0:Int)≤(j:Int):=by omega
   have hk0:(k:Int)<(s.length:Int):=by omega
   have hdg:zmi s k=((at0 s j).toNat:Int) - 48:=by unfold zmi;rw[hj]
   rw[hdg]at hbd hy
   have hb1:=hbd.1
   have hb2:=hbd.2
   simp only at hy
   clear hdg hj
   gi_wp2
   refine hR.mono ?_
   rintro e W3 (⟨rfl,hJ3,hk3⟩|⟨rfl,hJx3⟩)
   ·gi_wp2
    go_roundw
    case rel=>exact⟨k+1,by omega,by go_num,⟨_,hnext,hJ3⟩,hnx.trans hk3⟩
    case measure=>simp[intOf];omega
   ·gi_wp2
    refine bodyPost_ret (results_none rfl _ _ _) rfl ?_
    exact⟨⟨_,rfl⟩,.inr ⟨_,⟨k+1,by omega,hnext⟩,hJx3⟩⟩
  ·obtain rfl:k=s.length:=by omega
   gi_wp2
   go_end0
   exact⟨⟨_,rfl⟩,.inl ⟨_,hpre,hJs⟩⟩
theorem znj(Bs:Nat)(s:Str)(hd:zay s)(hlen:s.length≤1000000)(w:World)(m:Nat)(hm:1≤m)(hBs:w.cell? ⟨Bs,0,none⟩=some (.string ⟨s.toArray⟩)) :
  zi8 m Tryz.prog 264 #[.pointer (some ⟨Bs,0,none⟩)] (fun x:PlN s.length=>#[.int .i64 (x.1:Nat),.int .i64 (zmi s x.1)]) [Bs] (fun _ _=>True) zr8 (fun ys=>UpN s.length ys) (fun pre=>∃ k,k≤s.length∧UpN k pre) w:=fun l J Jx W hW _ hY h0=>by
 refine(zpc m hm l Bs s hd hlen J Jx hY W (za hW hBs) h0).mono ?_
 rintro e W'⟨hv,⟨ys,hys,hJ⟩|⟨pre,hp,hJx⟩⟩
 ·exact⟨hv,.inl ⟨_,hys,hJ⟩⟩
 ·exact⟨hv,.inr ⟨pre,hp,hJx⟩⟩
theorem zjn(s:Str)(w:World) :
  Calls Tryz.prog 200 #[.string ⟨s.toArray⟩] w fun e w'=>e=.returned (.func (.func 264) #[] #[.pointer (some ⟨w.heap.size,0,none⟩)])∧w'=w.alloc (.cells #[.string ⟨s.toArray⟩] 9):=by
 go_enter Tryz.func200,Tryz.ntmps200
 go_wp2
 go_ret
 exact⟨rfl,rfl⟩
def zhy(k:Nat)(u:Int):Prop:=1≤u∧u≤1000000000∧(k % 9≠0→u=10 ^ (k % 9))
theorem zhy.next{k:Nat}{u:Int}(h:u=10 ^ (k % 9)):zhy (k+1) (u*10):=by
 have h1:u*10=10 ^ (k % 9+1):=by rw[h,Int.pow_succ]
 have h2:(10:Int) ^ (k % 9+1)≤10 ^ 9:=zbv (by decide) (by omega)
 have h3:(0:Int)<10 ^ (k % 9+1):=Int.pow_pos (by decide)
 refine⟨by omega,by rw[h1];exact Int.le_trans h2 (by decide),fun h9=>?_⟩
 rw[h1];congr 1;omega
theorem zsx(s:Str)(rest:Str)(hr:zo s=rest)(hd:zay rest)(hl:s.length≤100000)(w:World) :
  CallsIn Fence.wide 9 Tryz.prog 144 #[.string ⟨s.toArray⟩] w fun e w'=>∃ v,e=.returned (.agg #[.bool (decide (s.head? = some 45)),v])∧zO w' v (limbs LB (nval rest))∧Q w w':=by
 obtain⟨i0,hi,hz0,hz1,hz2⟩:=info_parts zdz
 have hrl:rest.length≤100000:=by
  rw[← hr];unfold zo;split
  ·rw[List.length_tail];omega
  ·exact hl
 have HC:=LH (fun W=>zdj s W)
 rw[hr]at HC
 generalize decide (s.head? = some 45)=mi at *
 obtain⟨n,hn⟩:∃ n,(rest.length+8) / 9=n:=⟨_,rfl⟩
 have hn1:((rest.length:Int)+9 - 1) / 9=(n:Int):=by omega
 have hn2:((rest.length:Int)+8) / 9=(n:Int):=by omega
 have HN:=LH hn
 have hnl:n≤100000:=by omega
 clear hn hr
 refine callsIn_of_wp_marks Tryz.func144 rfl trivial ?_ rfl
 simp only[Tryz.ntmps144,List.size_toArray,List.length_cons,List.length_nil,Nat.reduceAdd,Nat.reduceSub,Array.replicate_succ,Array.replicate_zero,List.push_toArray,List.append_toArray,List.nil_append,List.cons_append]
 obtain⟨w0,hw0⟩:∃ w0,w.alloc (.cells [.bool false,.slice none 0 0].toArray 204)=w0:=⟨_,rfl⟩
 have B0:Blk w0 w.heap.size [.bool false,.slice none 0 0] 204:=by rw[← hw0];exact Blk.new w _ _
 have hs0:w0.heap.size=w.heap.size+1:=by rw[← hw0];simp
 have hq0:Q w w0:=by rw[← hw0];exact(Below.refl _ w).alloc (Nat.le_refl _) _
 obtain⟨W1,hmk,hown,hgr⟩:=run_make_full (P:=Tryz.prog) w0 w0.heap.size 29 3 i0 _ 1 Tryz.underlying29 hi hz0 hz1 .i64 .i64 n (by rw[hz2];omega) (by unfold maxLen;omega) (Nat.le_refl _)
 rw[show (Value.int .i64 0).cells=#[Value.int .i64 0]from rfl,Nat.mul_one,toList_madeCells_one,zea]at hown
 have hg1:w0.heap.size<W1.heap.size:=(hown.lt w0.heap.size rfl).2
 have hq1:Q w W1:=hq0.grown hgr (by omega) (fun k hk=>by cases hk)
 have kc1:KC w0 W1:=KC.of (B:=0) hgr (fun r e=>by cases e)
 have B01:=B0.kc kc1
 rw[hs0]at hmk hown hg1
 refine wpIn_wide.2 ?_
 go_wp2_with fail
 refine(HC.out _).mono ?_
 rintro e w2⟨rfl,rfl⟩
 go_wp2_with fail
 refine(zjn rest _).mono ?_
 rintro e w2⟨rfl,rfl⟩
 obtain⟨X,hX⟩:∃ X,W1.heap.size=X:=⟨_,rfl⟩
 obtain⟨W2,hW2⟩:∃ W2,((W1.alloc (.cells [.bool mi,.slice (some ⟨w.heap.size+1,0,none⟩) n n].toArray 204)).alloc (.cells #[.int .i64 1] 3)).alloc (.cells #[.string ⟨rest.toArray⟩] 9)=W2:=⟨_,rfl⟩
 have kc2:KC W1 W2:=by rw[← hW2];exact((KC.alloc _ _).trans (KC.alloc _ _)).trans (KC.alloc _ _)
 have hq2:Q w W2:=by rw[← hW2];exact((hq1.alloc hq1.size _).alloc (by simp;have:=hq1.size;omega) _).alloc (by simp;have:=hq1.size;omega) _
 have bR2:=B01.kc kc2
 have row2:=zdh (zJ hown kc2) (B':=w.heap.size) (by omega)
 have bX2:Blk W2 X [.bool mi,.slice (some ⟨w.heap.size+1,0,none⟩) n n] 204:=by
  have:=((Blk.new W1 [.bool mi,.slice (some ⟨w.heap.size+1,0,none⟩) n n] 204).alloc (.cells #[.int .i64 1] 3)).alloc (.cells #[.string ⟨rest.toArray⟩] 9)
  rw[hX,hW2]at this;exact this
 have bU2:Boxed W2 (X+1) 3 (.int .i64 1):=by
  have:=(Boxed.new (W1.alloc (.cells [.bool mi,.slice (some ⟨w.heap.size+1,0,none⟩) n n].toArray 204)) 3 (.int .i64 1)).alloc (.cells #[.string ⟨rest.toArray⟩] 9)
  rw[World.size_alloc,hX,hW2]at this;exact this
 have bS2:Boxed W2 (X+2) 9 (.string ⟨rest.toArray⟩):=by
  have:=Boxed.new ((W1.alloc (.cells [.bool mi,.slice (some ⟨w.heap.size+1,0,none⟩) n n].toArray 204)).alloc (.cells #[.int .i64 1] 3)) 9 (.string ⟨rest.toArray⟩)
  rw[World.size_alloc,World.size_alloc,hX,hW2]at this;exact this
 have hs2:W2.heap.size=X+3:=by rw[← hW2];simp[hX]
 have hR0:Hid (ReadInv rest ([]:List (PlN rest.length)).length (List.replicate n 0)):=LH (by rw[← HN.out];exact ReadInv.start rest)
 have hU0:Hid (zhy ([]:List (PlN rest.length)).length 1):=LH ⟨by decide,by decide,fun h=>absurd rfl h⟩
 rw[hX]at hg1
 rw[World.size_alloc,World.size_alloc,hX,hW2]
 clear hW2 kc2 B01 hown B0 hmk hgr hq1 hq0 kc1 hw0 hX hn1 hn2
 go_wp2_with fail
 refine(wpIn_wide (n:=9)).1 ?_
 refine zaX (m:=9) (gf:=264) (lb:=#[.pointer (some ⟨X+2,0,none⟩)]) (by omega) rfl (enters_of Tryz.func264 (by kernel_rfl) rfl)
  (znj (X+2) rest hd (by omega) W2 8 (by omega) bS2.cell) (by simp;omega) (fun _=>rfl)
  (fun pre W=>Blk W w.heap.size [.bool false,.slice none 0 0] 204∧Blk W X [.bool mi,.slice (some ⟨w.heap.size+1,0,none⟩) n n] 204 ∧
   (∃ o u,Boxed W (X+1) 3 (.int .i64 u)∧W.ownsRow w.heap.size 3 1 (.slice (some ⟨w.heap.size+1,0,none⟩) n n) n (zaz o)∧Hid (ReadInv rest pre.length o)∧Hid (zhy pre.length u))∧Q w W)
  (fun _ _ _=>False) (fun _ _ _=>trivial)
  (fun pre W W' h k hb=>⟨h.1.kc k,h.2.1.kc k,by
   obtain⟨o,u,h1,h2,h3,h4⟩:=h.2.2.1
   exact⟨o,u,zu h1 k,zJ h2 k,h3,h4⟩,Below.trans h.2.2.2 (hb.mono hq2.size)⟩)
  (fun _ _ _ _ h _ _=>h)
  ⟨bR2,bX2,⟨_,_,bU2,row2,hR0,hU0⟩,hq2⟩
  ?a1 ?assign ?body ?done ?stop
 case assign =>
  intro l x W K hK
  gi_wp2
  exact hK
 case stop =>
  rintro D c pre W _ _ h _
  exact h.elim
 case body =>
  rintro l pre x W⟨hbR,hbX,⟨o,u,hbU,hrow,hR,hU⟩,hQ⟩ hnx
  obtain⟨k,hkl⟩:=x
  have hkp:k=pre.length:=hnx
  rw[← hkp]at hR hU
  have HKL:Hid (pre.length+1=k+1):=LH (by omega)
  clear hkp hnx
  have hmix:Tryz.prog.follows .mixedOrders=true:=by kernel_rfl
  have hdg:=zn2 hd hkl
  obtain⟨d,hdd⟩:∃ d,zmi rest k=d:=⟨_,rfl⟩
  have hu:=hU.out
  obtain⟨hu1,hu2,-⟩:=id hu
  have hk0:(0:Int)≤(k:Int):=by omega
  rw[hs2]
  simp only[hdd]at hdg ⊢
  by_cases hk9:k % 9=0
  ·have hb9:((k:Int) % 9 == 0)=true:=by rw[beq_iff_eq];omega
   have bUa:=hbU.set (.int .i64 1)
   have bXa:=hbX.setOther (b':=X+1) (by omega) 0 (.int .i64 1)
   have bRa:=hbR.setOther (b':=X+1) (by omega) 0 (.int .i64 1)
   have rowa:=zX hrow (b:=X+1) (by omega) 0 (.int .i64 1)
   have hQa:Q w (W.setCell ⟨X+1,0,none⟩ (.int .i64 1)):=hQ.setCell (p:=⟨X+1,0,none⟩) (by simp;omega) _
   have hu2a:Hid (zhy (k+1) (1*10)):=LH (zhy.next (k:=k) (by rw[hk9];rfl))
   have hcU:=hbU.cell
   have hfU:=hbU.frozen
   gi_wp2
   have hxc:=bXa.cell 1
   have hfx:=bUa.frozen
   have hcu:=bUa.cell
   simp only[zs4,zs5]at hxc
   have hol:o.length=n:=by rw[hR.out.len];exact HN.out
   have hlb:=hR.out.limb hd hkl
   have hce:=rowa.cellAt (k / 9) (by omega)
   rw[zbx o (k / 9) (by omega)]at hce
   have hst:=LH (hR.out.step hd hkl d hdd.symm hdg.1 hdg.2)
   have dX:(W.setCell ⟨X+1,0,none⟩ (.int .i64 1)).drew.cell? ⟨X,1,none⟩=some (.slice (some ⟨w.heap.size+1,0,none⟩) n n):=hxc
   have dU:(W.setCell ⟨X+1,0,none⟩ (.int .i64 1)).drew.cell? ⟨X+1,0,none⟩=some (.int .i64 1):=hcu
   have dO:(W.setCell ⟨X+1,0,none⟩ (.int .i64 1)).drew.cell? ⟨w.heap.size+1,k / 9,none⟩=some (.int .i64 (o.getD (k / 9) 0)):=hce
   obtain⟨hl1,hl2,hl3⟩:=hlb
   have hpu:(10:Int) ^ (k % 9)=1:=(by rw[hk9];rfl)
   rw[hpu]at hl3 hst
   generalize o.getD (k / 9) 0=y at *
   have hdu0:0≤d*1:=Int.mul_nonneg hdg.1 (by omega)
   have hdu1:d*1≤9*1:=Int.mul_le_mul_of_nonneg_right hdg.2 (by omega)
   have hw1:=Go.IntWalk.i64_in (d*1) (by omega)
   have hw2:=Go.IntWalk.i64_in (y+d*1) (by omega)
   have hkt:(k:Int).tdiv 9=((k / 9:Nat):Int):=by rw[Int.tdiv_eq_ediv_of_nonneg (by omega)];omega
   have hkw:=Go.IntWalk.i64_in ((k / 9:Nat):Int) (by omega)
   have hkq:(k:Int) / 9=((k / 9:Nat):Int):=by omega
   obtain⟨j,hj⟩:∃ j,k / 9=j:=⟨_,rfl⟩
   rw[hj]at hl1 hst dO hkt hkw hkq hce
   have hjn:(j:Int)<(n:Int):=by omega
   have hj0:(0:Int)≤(j:Int):=by omega
   clear hj hpu hxc hcu hce
   generalize hp:d*1=p at *
   refine zaG 11 hmix (by kernel_rfl) rfl (by kernel_rfl) ?_
   refine svp 0 ?_
   refine svq 1 rfl (by intro w' hq;have hc0:=za hq dX;go_simp;try with_reducible rfl) ?_
   refine svp 2 ?_
   refine svp 3 ?_
   refine svp 4 ?_
   refine svq 5 rfl (by intro w' hq;have hc0:=za hq dO;go_simp;try with_reducible rfl) ?_
   refine svp 6 ?_
   refine svq 7 rfl (by intro w' hq;have hc0:=za hq dU;go_simp;try with_reducible rfl) ?_
   refine svp 8 ?_
   refine svp 9 ?_
   refine svp 10 ?_
   refine zh (by kernel_rfl) (fun w3 hq3=>?_)
   simp only[List.drop_succ_cons,List.drop_zero]
   have hqq:Q (W.setCell ⟨X+1,0,none⟩ (.int .i64 1)) w3:=Below.trans (Below.drew (Q.refl _)) hq3
   have kc3:=KC.q hqq
   have row3:=zJ rowa kc3
   have bX3:=bXa.kc kc3
   have bR3:=bRa.kc kc3
   have bU3:=zu bUa kc3
   have hc3:=row3.cellAt j (by omega)
   have hf3:=row3.frozenAt j
   obtain⟨hr4,-⟩:=row3.stored j (.int .i64 (y+p))
   rw[zcD]at hr4
   obtain⟨c3,hc3'⟩:∃ c3,w3.cell? ⟨w.heap.size+1,j,none⟩=some c3:=⟨_,by rw[hc3];exact zbx o j (by omega)⟩
   have bU4:=zbq bU3 (g:=w.heap.size+1) (by omega) j (.int .i64 (y+p))
   have bX4:=bX3.setOther (b':=w.heap.size+1) (by omega) j (.int .i64 (y+p))
   have bR4:=bR3.setOther (b':=w.heap.size+1) (by omega) j (.int .i64 (y+p))
   have hcU4:=bU4.cell
   have hfU4:=bU4.frozen
   have bU5:=bU4.set (.int .i64 (1*10))
   have bX5:=bX4.setOther (b':=X+1) (by omega) 0 (.int .i64 (1*10))
   have bR5:=bR4.setOther (b':=X+1) (by omega) 0 (.int .i64 (1*10))
   have hr5:=zX hr4 (b:=X+1) (by omega) 0 (.int .i64 (1*10))
   have kf5:KeepsFrom (X+3) W ((w3.setCell ⟨w.heap.size+1,j,none⟩ (.int .i64 (y+p))).setCell ⟨X+1,0,none⟩ (.int .i64 (1*10))) :=
    ((KeepsOthers.setCell _ _ _).from _).trans ((((KeepsOthers.of_grownBy (zas hqq none) (fun j o e=>by cases e)).from _).trans ((KeepsOthers.setCell _ _ _).from _)).trans ((KeepsOthers.setCell _ _ _).from _))
   have kb5:zI [X+2] W ((w3.setCell ⟨w.heap.size+1,j,none⟩ (.int .i64 (y+p))).setCell ⟨X+1,0,none⟩ (.int .i64 (1*10))) :=
    (zI.set W (by simp) 0 (.int .i64 1)).trans (((zI.q hqq).trans (zI.set _ (by simp;omega) _ _)).trans (zI.set _ (by simp) _ _))
   have hQ5:Q w ((w3.setCell ⟨w.heap.size+1,j,none⟩ (.int .i64 (y+p))).setCell ⟨X+1,0,none⟩ (.int .i64 (1*10))) :=
    ((Q.trans hQa hqq).setCell (p:=⟨w.heap.size+1,j,none⟩) (by simp) _).setCell (p:=⟨X+1,0,none⟩) (by simp;omega) _
   clear hw1 hw2 hkt hkw hkq hp hc3 dX dU dO
   go_wp2
   simp only[zbC]
   gi_wp2
   refine⟨kf5,kb5,bR5,bX5,⟨_,_,bU5,hr5,LH (by rw[List.length_append,List.length_singleton,HKL.out];exact hst.out),LH (by rw[List.length_append,List.length_singleton,HKL.out];exact hu2a.out)⟩,hQ5⟩
  ·have hb9:((k:Int) % 9 == 0)=false:=by rw[beq_eq_false_iff_ne];omega
   have hu2b:Hid (zhy (k+1) (u*10)):=LH (zhy.next (k:=k) (hu.2.2 hk9))
   have hub:u≤100000000:=by
    rw[hu.2.2 hk9]
    exact Int.le_trans (zbv (B:=10) (by decide) (show k % 9≤8 by omega)) (by decide)
   gi_wp2
   have hxc:=hbX.cell 1
   have hfx:=hbU.frozen
   have hcu:=hbU.cell
   simp only[zs4,zs5]at hxc
   have hol:o.length=n:=by rw[hR.out.len];exact HN.out
   have hlb:=hR.out.limb hd hkl
   have hce:=hrow.cellAt (k / 9) (by omega)
   rw[zbx o (k / 9) (by omega)]at hce
   have hst:=LH (hR.out.step hd hkl d hdd.symm hdg.1 hdg.2)
   have dX:(W).drew.cell? ⟨X,1,none⟩=some (.slice (some ⟨w.heap.size+1,0,none⟩) n n):=hxc
   have dU:(W).drew.cell? ⟨X+1,0,none⟩=some (.int .i64 u):=hcu
   have dO:(W).drew.cell? ⟨w.heap.size+1,k / 9,none⟩=some (.int .i64 (o.getD (k / 9) 0)):=hce
   obtain⟨hl1,hl2,hl3⟩:=hlb
   have hpu:(10:Int) ^ (k % 9)=u:=(hu.2.2 hk9).symm
   rw[hpu]at hl3 hst
   generalize o.getD (k / 9) 0=y at *
   have hdu0:0≤d*u:=Int.mul_nonneg hdg.1 (by omega)
   have hdu1:d*u≤9*u:=Int.mul_le_mul_of_nonneg_right hdg.2 (by omega)
   have hw1:=Go.IntWalk.i64_in (d*u) (by omega)
   have hw2:=Go.IntWalk.i64_in (y+d*u) (by omega)
   have hkt:(k:Int).tdiv 9=((k / 9:Nat):Int):=by rw[Int.tdiv_eq_ediv_of_nonneg (by omega)];omega
   have hkw:=Go.IntWalk.i64_in ((k / 9:Nat):Int) (by omega)
   have hkq:(k:Int) / 9=((k / 9:Nat):Int):=by omega
   obtain⟨j,hj⟩:∃ j,k / 9=j:=⟨_,rfl⟩
   rw[hj]at hl1 hst dO hkt hkw hkq hce
   have hjn:(j:Int)<(n:Int):=by omega
   have hj0:(0:Int)≤(j:Int):=by omega
   clear hj hpu hxc hcu hce
   generalize hp:d*u=p at *
   refine zaG 11 hmix (by kernel_rfl) rfl (by kernel_rfl) ?_
   refine svp 0 ?_
   refine svq 1 rfl (by intro w' hq;have hc0:=za hq dX;go_simp;try with_reducible rfl) ?_
   refine svp 2 ?_
   refine svp 3 ?_
   refine svp 4 ?_
   refine svq 5 rfl (by intro w' hq;have hc0:=za hq dO;go_simp;try with_reducible rfl) ?_
   refine svp 6 ?_
   refine svq 7 rfl (by intro w' hq;have hc0:=za hq dU;go_simp;try with_reducible rfl) ?_
   refine svp 8 ?_
   refine svp 9 ?_
   refine svp 10 ?_
   refine zh (by kernel_rfl) (fun w3 hq3=>?_)
   simp only[List.drop_succ_cons,List.drop_zero]
   have hqq:Q (W) w3:=Below.trans (Below.drew (Q.refl _)) hq3
   have kc3:=KC.q hqq
   have row3:=zJ hrow kc3
   have bX3:=hbX.kc kc3
   have bR3:=hbR.kc kc3
   have bU3:=zu hbU kc3
   have hc3:=row3.cellAt j (by omega)
   have hf3:=row3.frozenAt j
   obtain⟨hr4,-⟩:=row3.stored j (.int .i64 (y+p))
   rw[zcD]at hr4
   obtain⟨c3,hc3'⟩:∃ c3,w3.cell? ⟨w.heap.size+1,j,none⟩=some c3:=⟨_,by rw[hc3];exact zbx o j (by omega)⟩
   have bU4:=zbq bU3 (g:=w.heap.size+1) (by omega) j (.int .i64 (y+p))
   have bX4:=bX3.setOther (b':=w.heap.size+1) (by omega) j (.int .i64 (y+p))
   have bR4:=bR3.setOther (b':=w.heap.size+1) (by omega) j (.int .i64 (y+p))
   have hcU4:=bU4.cell
   have hfU4:=bU4.frozen
   have bU5:=bU4.set (.int .i64 (u*10))
   have bX5:=bX4.setOther (b':=X+1) (by omega) 0 (.int .i64 (u*10))
   have bR5:=bR4.setOther (b':=X+1) (by omega) 0 (.int .i64 (u*10))
   have hr5:=zX hr4 (b:=X+1) (by omega) 0 (.int .i64 (u*10))
   have kf5:KeepsFrom (X+3) W ((w3.setCell ⟨w.heap.size+1,j,none⟩ (.int .i64 (y+p))).setCell ⟨X+1,0,none⟩ (.int .i64 (u*10))) :=
    (KeepsFrom.refl _ _).trans ((((KeepsOthers.of_grownBy (zas hqq none) (fun j o e=>by cases e)).from _).trans ((KeepsOthers.setCell _ _ _).from _)).trans ((KeepsOthers.setCell _ _ _).from _))
   have kb5:zI [X+2] W ((w3.setCell ⟨w.heap.size+1,j,none⟩ (.int .i64 (y+p))).setCell ⟨X+1,0,none⟩ (.int .i64 (u*10))) :=
    (zI.refl _ _).trans (((zI.q hqq).trans (zI.set _ (by simp;omega) _ _)).trans (zI.set _ (by simp) _ _))
   have hQ5:Q w ((w3.setCell ⟨w.heap.size+1,j,none⟩ (.int .i64 (y+p))).setCell ⟨X+1,0,none⟩ (.int .i64 (u*10))) :=
    ((Q.trans hQ hqq).setCell (p:=⟨w.heap.size+1,j,none⟩) (by simp) _).setCell (p:=⟨X+1,0,none⟩) (by simp;omega) _
   clear hw1 hw2 hkt hkw hkq hp hc3 dX dU dO
   go_wp2
   simp only[zbC]
   gi_wp2
   refine⟨kf5,kb5,bR5,bX5,⟨_,_,bU5,hr5,LH (by rw[List.length_append,List.length_singleton,HKL.out];exact hst.out),LH (by rw[List.length_append,List.length_singleton,HKL.out];exact hu2b.out)⟩,hQ5⟩
 case done =>
  rintro D ys W hD hys⟨hbR,hbX,⟨o,u,hbU,hrow,hR,hU⟩,hQ⟩ hK
  rw[hys.len]at hR
  have hT:=hR.out.done
  have hol:o.length=n:=by rw[hR.out.len];exact HN.out
  have HTr:Hid (Calls Tryz.prog 201 #[.slice (some ⟨w.heap.size+1,0,none⟩) n n] W fun e w''=>e=.returned (.slice (some ⟨w.heap.size+1,0,none⟩) (zaJ o).length n)∧w''=W):=LH (by
   have hs:=zbn (v:=.slice (some ⟨w.heap.size+1,0,none⟩) n n) (l:=o) (by rw[hol];exact hrow)
   have:=za8 o (by omega) (some ⟨w.heap.size+1,0,none⟩) n W (by rw[hol];exact hs)
   rw[hol]at this
   exact this)
  have hlt:=zaW o
  have hrT:=zcA hrow (m:=(zaJ o).length) (by omega)
  rw[zdT,hlt.2,hT]at hrT
  rw[hT]at HTr
  generalize hln:(limbs 1000000000 (nval rest)).length=ln at *
  have HLN:=LH hln
  have hxc:=hbX.cell 1
  have hxf:=hbX.frozen 1
  have bX3:=hbX.set 1 (.slice (some ⟨w.heap.size+1,0,none⟩) ln n)
  have bR3:=hbR.setOther (b':=X) (by omega) 1 (.slice (some ⟨w.heap.size+1,0,none⟩) ln n)
  have x0:=bX3.cell 0
  have x1:=bX3.cell 1
  have r0:=bR3.cell 0
  have r1:=bR3.cell 1
  have q0:=bR3.frozen 0
  have q1:=bR3.frozen 1
  simp only[zs4,zs5,List.set_cons_zero,List.set_cons_succ]at hxc x0 x1 r0 r1
  have bR5:=(bR3.set 0 (.bool mi)).set 1 (.slice (some ⟨w.heap.size+1,0,none⟩) ln n)
  have hr5:=zX (zX (zX hrT (b:=X) (by omega) 1 (.slice (some ⟨w.heap.size+1,0,none⟩) ln n)) (b:=w.heap.size) (by omega) 0 (.bool mi)) (b:=w.heap.size) (by omega) 1 (.slice (some ⟨w.heap.size+1,0,none⟩) ln n)
  have hK5:(((W.setCell ⟨X,1,none⟩ (.slice (some ⟨w.heap.size+1,0,none⟩) ln n)).setCell ⟨w.heap.size,0,none⟩ (.bool mi)).setCell ⟨w.heap.size,1,none⟩ (.slice (some ⟨w.heap.size+1,0,none⟩) ln n)).heap[D]? = some (.deferred (some [])) :=
   (KeepsOthers.setCell _ _ _).same D _ ((KeepsOthers.setCell _ _ _).same D _ ((KeepsOthers.setCell _ _ _).same D _ hK rfl) rfl) rfl
  have hQ5:Q w (((W.setCell ⟨X,1,none⟩ (.slice (some ⟨w.heap.size+1,0,none⟩) ln n)).setCell ⟨w.heap.size,0,none⟩ (.bool mi)).setCell ⟨w.heap.size,1,none⟩ (.slice (some ⟨w.heap.size+1,0,none⟩) ln n)) :=
   ((hQ.setCell (p:=⟨X,1,none⟩) (by simp;omega) _).setCell (p:=⟨w.heap.size,0,none⟩) (by simp) _).setCell (p:=⟨w.heap.size,1,none⟩) (by simp) _
  clear hln hT hlt hbU hrow hR hU hol hbR bR3
  go_wp2_with fail
  refine HTr.out.mono ?_
  rintro e w4⟨rfl,rfl⟩
  clear HTr
  go_wp2
  have kc:=KC.put (.deferred none) hK5 rfl
  refine⟨by simp,.inl ⟨_,_,rfl,run_takeDeferred hK5,?_⟩⟩
  refine⟨_,zkn _ _ w.heap.size _ _ 2 _ rfl rfl ((bR5.kc kc).cell 0) ((bR5.kc kc).cell 1),_,rfl,?_,Below.trans hQ5 (zaQ (by omega) hK5 _)⟩
  exact zbn (l:=limbs 1000000000 (nval rest)) (by rw[HLN.out];exact zJ hr5 kc)
theorem zhs(s:Str)(rest:Str)(hr:zo s=rest)(hd:zay rest)(hl:s.length≤100000)(w:World) :
  Calls Tryz.prog 144 #[.string ⟨s.toArray⟩] w fun e w'=>∃ v,e=.returned (.agg #[.bool (decide (s.head? = some 45)),v])∧zO w' v (limbs LB (nval rest))∧Q w w' :=
 callsIn_wide.1 (zsx s rest hr hd hl w)
end
section
open Go.RowKit Kp
def Far(w:World)(b:Nat)(w':World):Prop:=w.heap.size≤w'.heap.size∧∀ k o,k≠b→(∀ cs fr,o≠Obj.cells cs 5 fr)→w.heap[k]? = some o→w'.heap[k]? = some o
theorem own_ne{w:World}{base n k:Nat}{e:TypeId}{v:Value}{xs:List Value}{o:Obj}(h:w.ownsRow base e 1 v n xs)(hk:w.heap[k]? = some o)(ho:∀ cs fr,o≠Obj.cells cs e fr)(he:some k=v.ownBlock):False:=by
 rcases h.2 with⟨rfl,_⟩|⟨g,cap,cur,rfl,_,hg,_⟩
 ·cases he
 ·have:k=g:=Option.some.inj he
  subst this
  rw[hg]at hk
  exact ho _ _ (Option.some.inj hk).symm
theorem Far.boxed{w w':World}{b g:Nat}{t:TypeId}{v:Value}(h:Far w b w')(hb:Boxed w g t v)(hne:g≠b)(ht:t≠5):Boxed w' g t v:=h.2 _ _ hne (fun cs fr e=>ht (by cases e;rfl)) hb
theorem Far.keeps{w w':World}{b B:Nat}(h:Far w b w'){cs:Array Value}{t:TypeId}{f:Nat × Nat}(hb:w.heap[b]? = some (.cells cs t f)):KeepsFrom B w w':=(KeepsOthers.from ⟨h.1,fun k o hk ho=>h.2 k o (fun e=>by subst e;rw[hb]at hk;cases hk;cases ho) (fun cs fr e=>by subst e;cases ho) hk⟩ B)
theorem zgA(B b:Nat)(bs:List Value)(c:Int)(w:World)(h:Lib.IsBuilder 325 5 B b bs w)(hlen:bs.length+1≤140737488355328)(hBw:B≤w.heap.size) :
  Calls Tryz.prog 265 #[.pointer (some ⟨b,0,none⟩),.int .u8 c] w fun e w'=>e=.returned .nilIface∧(Lib.BuilderAt 325 5 B b (.pointer (some ⟨b,0,none⟩)) (bs++[.int .u8 c]) w'∧Below B w w'∧Far w b w'):=by
 obtain⟨i0,hi,hz0,hz1,hz2⟩:=info_parts infoByte
 go_enter Tryz.func265,Tryz.ntmps265
 go_wp2_with (go_at_call 306;refine(zdn B b bs _ h).mono ?_)
 rintro e w1⟨rfl,h1,hb1,HK⟩
 obtain⟨hB,v,hbk,hown,hne⟩:=h1
 have c0:w1.cell? ⟨b,0,none⟩=some (.pointer (some ⟨b,0,none⟩)):=by rw[Lib.cell_of_heap hbk];rfl
 have c1:w1.cell? ⟨b,1,none⟩=some v:=by rw[Lib.cell_of_heap hbk];rfl
 go_wp2_with (at_builtin;refine wpList_append_own _ rfl _ _ 296 rfl B 5 i0 (.int .u8 0) 1 1 Tryz.underlying296 hi hz0 hz1 hz2 rfl (by decide) _ _ _ rfl (hown.alloc _) ⟨w1.heap.size,0,none⟩ 1 1 [.int .u8 c] rfl rfl ?c1 ?c2 ?c3 ?c4 ?c5 ?_)
 case c1 =>
  intro j u hj
  match j,hj with
  | 0,hj=>simp at hj;subst hj;simp[Addr.add]
 case c2=>intro u hu;simp at hu;subst hu;rfl
 case c3=>unfold maxLen;omega
 case c4=>omega
 case c5=>have:=hb1.size;simp;omega
 intro v' w2 hown' hgrow _
 have hlt:b<w1.heap.size:=by
  rcases Nat.lt_or_ge b w1.heap.size with h' | h'
  ·exact h'
  ·simp[Array.getElem?_eq_none h']at hbk
 have hb2:w2.heap[b]? = some (.cells #[.pointer (some ⟨b,0,none⟩),v] 325 (0,0)):=by
  rw[hgrow.block b (by simp;omega) (fun e=>hne e.symm),Lib.alloc_old w1 _ b hlt]
  exact hbk
 have HF:Hid (Far w b (w2.setCell ⟨b,1,none⟩ v')):=LH ⟨by have:=hb1.size;have:=hgrow.size;simp[World.setCell]at *;omega,fun k o hk hT hc=>by
  have e1:=(HK.out k hk).trans hc
  have hlk:k<w1.heap.size:=(Array.getElem?_eq_some_iff.1 e1).1
  rw[Below.heap_setCell _ _ _ _ (fun e=>hk e),hgrow.block k (by simp;omega) (fun e=>own_ne hown e1 hT e),Lib.alloc_old w1 _ k hlk]
  exact e1⟩
 have d0:w2.cell? ⟨b,0,none⟩=some (.pointer (some ⟨b,0,none⟩)):=by rw[Lib.cell_of_heap hb2];rfl
 have d1:w2.cell? ⟨b,1,none⟩=some v:=by rw[Lib.cell_of_heap hb2];rfl
 have f1:w2.frozen? ⟨b,1,none⟩=false:=Lib.frozen_of_heap hb2 1
 obtain⟨g,cap,rfl⟩:∃ g cap,v'=.slice (some ⟨g,0,none⟩) (bs.length+1) cap:=by
  rcases hown'.2 with⟨_,h0⟩|⟨g,cap,cur,hv,_⟩
  ·omega
  ·exact⟨g,cap,hv⟩
 go_wp2
 go_ret
 refine⟨rfl,?_,?_,HF.out⟩
 ·exact Lib.BuilderAt.put (T:=325) (e:=5) hB hb2 (bs':=bs++[.int .u8 c]) (by simpa using hown') (by decide)
 ·exact((hb1.alloc (by have:=hb1.size;omega) _).grown hgrow (by have:=hb1.size;simp;omega) (fun k hk=>(hown.lt k hk).1)).setCell (p:=⟨b,1,none⟩) hB _
theorem zaw(B b:Nat)(bs:List Value)(s:ByteArray)(w:World)(h:Lib.IsBuilder 325 5 B b bs w)(hlen:bs.length+s.size≤140737488355328)(hBw:B≤w.heap.size) :
  Calls Tryz.prog 267 #[.pointer (some ⟨b,0,none⟩),.string s] w fun e w'=>e=.returned (.tuple #[.int .i64 s.size,.nilIface])∧Lib.BuilderAt 325 5 B b (.pointer (some ⟨b,0,none⟩)) (bs++Lib.strCells s) w'∧Below B w w'∧Far w b w':=by
 obtain⟨i0,hi,hz0,hz1,hz2⟩:=info_parts infoByte
 go_enter Tryz.func267,Tryz.ntmps267
 go_wp2_with (go_at_call 306;refine(zdn B b bs _ h).mono ?_)
 rintro e w1⟨rfl,h1,hb1,HK⟩
 obtain⟨hB,v,hbk,hown,hne⟩:=h1
 have c0:w1.cell? ⟨b,0,none⟩=some (.pointer (some ⟨b,0,none⟩)):=by rw[Lib.cell_of_heap hbk];rfl
 have c1:w1.cell? ⟨b,1,none⟩=some v:=by rw[Lib.cell_of_heap hbk];rfl
 go_wp2_with (at_builtin;refine Lib.wpList_append_own_string _ rfl _ _ 296 9 rfl B 5 i0 Tryz.underlying296 Tryz.underlying9 hi hz0 hz1 hz2 _ _ _ rfl hown s rfl ?c3 ?c4 ?c5 ?_)
 case c3=>unfold maxLen;omega
 case c4=>omega
 case c5=>have:=hb1.size;omega
 intro v' w2 hown' hgrow _
 have hlt:b<w1.heap.size:=by
  rcases Nat.lt_or_ge b w1.heap.size with h' | h'
  ·exact h'
  ·simp[Array.getElem?_eq_none h']at hbk
 have hb2:w2.heap[b]? = some (.cells #[.pointer (some ⟨b,0,none⟩),v] 325 (0,0)):=by
  rw[hgrow.block b hlt (fun e=>hne e.symm)]
  exact hbk
 have HF:Hid (Far w b (w2.setCell ⟨b,1,none⟩ v')):=LH ⟨by have:=hb1.size;have:=hgrow.size;simp[World.setCell];omega,fun k o hk hT hc=>by
  have e1:=(HK.out k hk).trans hc
  have hlk:k<w1.heap.size:=(Array.getElem?_eq_some_iff.1 e1).1
  rw[Below.heap_setCell _ _ _ _ (fun e=>hk e),hgrow.block k hlk (fun e=>own_ne hown e1 hT e)]
  exact e1⟩
 have d0:w2.cell? ⟨b,0,none⟩=some (.pointer (some ⟨b,0,none⟩)):=by rw[Lib.cell_of_heap hb2];rfl
 have d1:w2.cell? ⟨b,1,none⟩=some v:=by rw[Lib.cell_of_heap hb2];rfl
 have f1:w2.frozen? ⟨b,1,none⟩=false:=Lib.frozen_of_heap hb2 1
 obtain⟨ao,n',cap,rfl⟩:∃ ao n' cap,v'=.slice ao n' cap:=by
  rcases hown'.2 with⟨hv,_⟩|⟨g,cap,cur,hv,_⟩
  ·exact⟨_,_,_,hv⟩
  ·exact⟨_,_,_,hv⟩
 go_wp2
 go_ret2
 refine⟨rfl,?_,?_,HF.out⟩
 ·exact Lib.BuilderAt.put (T:=325) (e:=5) hB hb2 (bs':=bs++Lib.strCells s) (by simpa[Lib.strCells_length]using hown') (by decide)
 ·exact(hb1.grown hgrow (by have:=hb1.size;omega) (fun k hk=>(hown.lt k hk).1)).setCell (p:=⟨b,1,none⟩) hB _
theorem zmJ(n:Nat):(Lib.repeatL (⟨#[48]⟩:ByteArray).data.toList n)=zbs n:=by
 show Lib.repeatL [48] n=List.replicate n 48
 induction n with
 | zero=>rfl
 | succ n ih=>rw[List.replicate_succ,← ih];simp[Lib.repeatL]
theorem zfI(n:Nat)(hn:n≤1000)(w:World) :
  CR 268 #[.string ⟨#[48]⟩,.int .i64 n] w (.string ⟨(zbs n).toArray⟩):=by
 match n with
 | 0 =>
  refine(Tryz.strings_Repeat_zero ⟨#[48]⟩ w).mono ?_
  rintro e w'⟨rfl,rfl⟩
  exact⟨rfl,Below.refl _ _⟩
 | 1 =>
  refine(Tryz.strings_Repeat_one ⟨#[48]⟩ w).mono ?_
  rintro e w'⟨rfl,rfl⟩
  exact⟨rfl,Below.refl _ _⟩
 | n+2 =>
  refine(Tryz.strings_Repeat_main ⟨#[48]⟩ (n+2) w (by omega) (by omega) (by show 1*(n+2)≤_;omega) (by decide)).mono ?_
  rintro e w'⟨rfl,h⟩
  exact⟨by rw[zmJ],h⟩
end
end Go.Proofs.YtapnkgdnflofbaaGreatDoor
