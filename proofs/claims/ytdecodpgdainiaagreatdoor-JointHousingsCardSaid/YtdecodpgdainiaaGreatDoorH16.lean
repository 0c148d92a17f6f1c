/-
  Walks of package joint: numbers, sizes.; Members of any numbers: their check, their direction.; Adding two numbers of which the sum is too long.
-/
import Derived.Test.YtdecodpgdainiaaGreatDoorH15
import Derived.Test.YtdecodpgdainiaaGreatDoorHSD
set_option maxRecDepth 100000
set_option maxHeartbeats 4000000
namespace Go.Proofs.YtdecodpgdainiaaGreatDoor
section
open Go.RowKit Go.Shelf Kp
attribute [local go_sem] Oper.semAt_some
theorem zcz(n:Int)(hn:n.natAbs<100000000000000000)(w:World)(hE:Env w) :
  CR 26 #[.int .i64 n] w (.string ⟨(za (n:Rat)).toArray⟩):=by
 have HO:=LH (fun w hw=>zaw n 1 (by decide) hn (by decide) w hw)
 rw[zfx]at HO
 generalize za (n:Rat)=S at *
 go_enter Tryz.func26,Tryz.ntmps26
 have hQ0:=Q.refl w
 go_wp2_with fail
 refine cx (HO.out _ (hE.ofQ bt)) fun w1 hq1=>?_
 have hs1:Q w w1:=Q.trans bt hq1
 have hQ1:Q w w1:=Q.trans hQ0 hs1
 go_wp2
 go_ret
 exact⟨rfl,bt⟩
def ziB(x y:Rat):Int:=Lib.compareInt (x.num*y.den) (y.num*x.den)
theorem zlm{x y:Rat}(h:x<y):ziB x y = -1:=by
 have h2:=(Rat.lt_iff x y).1 h
 unfold ziB Lib.compareInt
 rw[if_pos h2]
theorem znB{x y:Rat}(h:y<x):ziB x y=1:=by
 have h2:=(Rat.lt_iff y x).1 h
 unfold ziB Lib.compareInt
 rw[if_neg (by omega),if_pos h2]
theorem zln(x:Rat):ziB x x=0:=by
 unfold ziB Lib.compareInt
 rw[if_neg (by omega),if_neg (by omega)]
theorem zdq{m n:Nat}(x y:Rat)(hx:Bd m x)(hy:Bd n y)(h:m+n≤300)(w:World)(hE:Env w) :
  CR 52 #[.string ⟨(za x).toArray⟩,.string ⟨(za y).toArray⟩] w (.int .i64 (ziB x y)):=by
 have HO:=LH (fun w hw=>zeF x y (hx.zak (by omega)) (hy.zak (by omega)) (zaO (zbR hx hy) h) (zaO (zbR hy hx) (by omega)) w hw)
 unfold ziB
 generalize Lib.compareInt (x.num*y.den) (y.num*x.den)=c at *
 generalize za x=X at *
 generalize za y=Y at *
 go_enter Tryz.func52,Tryz.ntmps52
 have hQ0:=Q.refl w
 go_wp2_with fail
 refine cx (HO.out _ (hE.ofQ bt)) fun w1 hq1=>?_
 have hs1:Q w w1:=Q.trans bt hq1
 have hQ1:Q w w1:=Q.trans hQ0 hs1
 go_wp2
 go_ret
 exact⟨rfl,bt⟩
theorem zhE{m n:Nat}(d:Int)(P:Str)(x y:Rat)(hx:Bd m x)(hy:Bd n y)(h:m+n+1≤300)(w:World)(hE:Env w) :
  CR 53 #[.agg #[.int .i64 d,.string ⟨P.toArray⟩,.string ⟨(za x).toArray⟩,.string ⟨(za y).toArray⟩]] w (.string ⟨(za (x - y)).toArray⟩):=by
 have HO:=LH (fun w hw=>zao x y hx hy h w hw)
 generalize za (x - y)=S at *
 generalize za x=X at *
 generalize za y=Y at *
 go_enter Tryz.func53,Tryz.ntmps53
 have hQ0:=Q.refl w
 go_wp2_with fail
 refine cx (HO.out _ (hE.ofQ bt)) fun w1 hq1=>?_
 have hs1:Q w w1:=Q.trans bt hq1
 have hQ1:Q w w1:=Q.trans hQ0 hs1
 go_wp2
 go_ret
 exact⟨rfl,bt⟩
theorem znG(q:Rat)(h:Bd 36 q)(w:World)(hE:Env w) :
  CR 145 #[.string ⟨(za q).toArray⟩] w (.bool true):=by
 have HP:=LH (fun w hw=>za9 q (h.zak (by decide)) w hw)
 obtain⟨l1,l2⟩:=zlV h
 clear h
 generalize za q=S at *
 have HT:=LH (fun w=>zH (Lib.itoa q.num) w)
 generalize zo (Lib.itoa q.num)=U at *
 generalize Lib.itoa q.num=N at *
 generalize Lib.itoa (q.den:Int)=D at *
 have hm:decide (max (U.length:Int) (D.length:Int)≤36)=true:=by rw[decide_eq_true_iff];omega
 go_enter Tryz.func145,Tryz.ntmps145
 have hQ0:=Q.refl w
 go_wp2_with fail
 refine cx (HP.out _ (hE.ofQ bt)) fun w1 hq1=>?_
 have hs1:Q w w1:=Q.trans bt hq1
 have hQ1:Q w w1:=Q.trans hQ0 hs1
 go_wp2_with fail
 refine(HT.out _).mono ?_
 rintro e w2⟨rfl,rfl⟩
 go_wp2
 go_ret
 refine⟨?_,hQ1⟩
 first | rfl | (show Ending.returned (Value.bool (decide _))=_;rw[hm])
end
section
open Go.RowKit Go.Shelf Kp
open Go.Lib (decDigits)
attribute [local go_sem] Oper.semAt_some
def znE(q:Rat):Bool:=decide ((36:Int)<max ((zo (Lib.itoa q.num)).length:Int) ((Lib.itoa (q.den:Int)).length:Int))
theorem znD{n:Nat}{q:Rat}(h:Bd n q)(hn:n≤36):znE q=false:=by
 obtain⟨l1,l2⟩:=zlV h
 unfold znE
 rw[decide_eq_false_iff_not]
 omega
theorem zlM(q:Rat)(h:zak q=false)(w:World)(hE:Env w) :
  CR 48 #[.string ⟨(za q).toArray⟩] w (.bool (znE q)):=by
 have HP:=LH (fun w hw=>za9 q h w hw)
 unfold znE
 clear h
 generalize za q=S at *
 have hu:zo (Lib.itoa q.num)=zo (Lib.itoa q.num):=rfl
 generalize Lib.itoa (q.den:Int)=D at *
 have HT:=LH (fun w=>zH (Lib.itoa q.num) w)
 generalize zo (Lib.itoa q.num)=U at *
 generalize Lib.itoa q.num=N at *
 clear hu
 go_enter Tryz.func48,Tryz.ntmps48
 have hQ0:=Q.refl w
 go_wp2_with fail
 refine cx (HP.out _ (hE.ofQ bt)) fun w1 hq1=>?_
 have hs1:Q w w1:=Q.trans bt hq1
 have hQ1:Q w w1:=Q.trans hQ0 hs1
 go_wp2_with fail
 refine(HT.out _).mono ?_
 rintro e w2⟨rfl,rfl⟩
 go_wp2
 go_ret
 exact⟨rfl,hQ1⟩
theorem zj5(l:List Rat)(hl:∀ q∈l,zak q=false)(hn:l.length≤100)(v:Value)(w:World)(hE:Env w)(hv:zca w v (l.map za)) :
  Calls Tryz.prog 87 #[v,.func (.func 48) #[] #[]] w fun e w'=>(∃ r:Int,e=.returned (.int .i64 r)∧decide (0≤r)=l.any znE)∧Q w w':=by
 obtain⟨b,o,cap,rfl,hb,hc⟩:=hv
 rw[List.length_map]at hc
 rw[List.length_map]
 have HL:=LH hl
 clear hl
 go_enter Tryz.func87,Tryz.ntmps87
 go_wp2
 go_loopw [8] (fun i wr=>∃ k:Nat,k≤l.length∧i=.int .i64 k∧Q w wr∧Hid ((l.take k).any znE=false)) (fun i _=>l.length - (intOf i).toNat)
 case atStart=>exact⟨0,by omega,rfl,Below.refl _ _,LH (by simp)⟩
 case round =>
  obtain⟨k,hk,rfl,hQ,HA⟩:=hrel
  by_cases hlt:k<l.length
  ·have hcell:=hc k hlt
   have hcell':wr.cell? ⟨b,o+k,none⟩=some (.string ⟨((l.map za).getD k []).toArray⟩):=by rw[hQ.cell (p:=⟨b,o+k,none⟩) hb];exact hcell
   have hq:(l.map za).getD k []=za l[k]:=by rw[List.getD_eq_getElem?_getD,List.getElem?_map,List.getElem?_eq_getElem hlt];rfl
   rw[hq]at hcell'
   have HG:=LH (fun w hw=>zlM l[k] (HL.out _ (List.getElem_mem hlt)) w hw)
   have HT:Hid (znE l[k]=false→(l.take (k+1)).any znE=false):=LH (fun h=>by
    rw[List.take_succ_eq_append_getElem hlt,List.any_append,HA.out,List.any_cons,List.any_nil,h];rfl)
   have HY:Hid (znE l[k]=true→l.any znE=true):=LH (fun h=>List.any_eq_true.2 ⟨l[k],List.getElem_mem hlt,h⟩)
   have HK:Hid (decide (0≤(k:Int))=true):=LH (decide_eq_true (Int.natCast_nonneg k))
   clear hcell hc hq HL HA
   generalize znE l[k]=b at *
   generalize za l[k]=S at *
   go_wp2_with fail
   refine cx (HG.out _ (hE.q hQ)) fun w2 hq2=>?_
   have hQ2:Q w w2:=Q.trans hQ hq2
   cases b with
   | true =>
    have hy:=HY.out rfl
    go_wp2
    go_ret
    exact⟨⟨_,rfl,by rw[hy];exact HK.out⟩,hQ2⟩
   | false =>
    have ht:=LH (HT.out rfl)
    clear HT HY HK
    go_wp2
    go_roundw
    case rel=>exact⟨k+1,by omega,by go_num,hQ2,ht⟩
    case measure=>simp[intOf];omega
  ·obtain rfl:k=l.length:=by omega
   have ha:=LH HA.out
   clear HA
   go_wp2
   go_ret
   exact⟨⟨_,rfl,by have:=ha.out;rw[List.take_length]at this;rw[this];rfl⟩,hQ⟩
theorem zhS(l:List Rat)(hl:∀ q∈l,zak q=false)(hn:l.length≤100)(v:Value)(w:World)(hE:Env w)(hv:zca w v (l.map za)) :
  CR 47 #[v,.func (.func 48) #[] #[]] w (.bool (l.any znE)):=by
 have HI:=LH (zj5 l hl hn v w hE hv)
 clear hl hv
 obtain⟨B,hB⟩:∃ B,l.any znE=B:=⟨_,rfl⟩
 rw[hB]at HI ⊢
 clear hB
 go_enter Tryz.func47,Tryz.ntmps47
 go_wp2_with fail
 refine HI.out.mono ?_
 rintro e w1⟨⟨r,rfl,hr⟩,hq1⟩
 subst hr
 clear HI
 go_wp2
 go_ret
 exact⟨rfl,hq1⟩
def lg3(p:P3):Bool:=[p.x,p.y,p.z].any znE
theorem zjs{n:Nat}{p:P3}(h:B3 n p)(hn:n≤36):lg3 p=false:=by
 unfold lg3
 simp only[List.any_cons,List.any_nil,Bool.or_false,znD h.1 hn,znD h.2.1 hn,znD h.2.2 hn]
theorem zh8{n:Nat}(p:P3)(h:B3 n p)(hn:n≤300)(w:World)(hE:Env w) :
  CR 16 #[V3 p] w (.bool (lg3 p)):=by
 have HC:=LH (fun v w hw hv=>zhS [p.x,p.y,p.z] (by
  intro q hq
  simp only[List.mem_cons,List.not_mem_nil,or_false]at hq
  rcases hq with rfl | rfl | rfl
  ·exact(h.1.mono hn).zak (by decide)
  ·exact(h.2.1.mono hn).zak (by decide)
  ·exact(h.2.2.mono hn).zak (by decide)) (by simp) v w hw hv)
 clear h
 unfold V3
 have e:[p.x,p.y,p.z].any znE=lg3 p:=rfl
 rw[e]at HC
 clear e
 generalize lg3 p=B at *
 have HC':Hid (∀ b t w,Env w→Blk w b [.string ⟨(za p.x).toArray⟩,.string ⟨(za p.y).toArray⟩,.string ⟨(za p.z).toArray⟩] t →
   CR 47 #[.slice (some ⟨b,0,none⟩) 3 3,.func (.func 48) #[] #[]] w (.bool B)) :=
  LH (fun b t w hw hb=>HC.out _ w hw (zca.three hb))
 clear HC
 generalize za p.x=X at *
 generalize za p.y=Y at *
 generalize za p.z=Z at *
 go_enter Tryz.func16,Tryz.ntmps16
 have hQ0:=Q.refl w
 go_wp2_with fail
 refine cx (HC'.out (w.heap.size+1) 22 _ (hE.ofQ bt) (Blk.new1 w _ [.string ⟨X.toArray⟩,.string ⟨Y.toArray⟩,.string ⟨Z.toArray⟩] 22)) fun w1 hq1=>?_
 have hs1:Q w w1:=Q.trans bt hq1
 have hQ1:Q w w1:=Q.trans hQ0 hs1
 go_wp2
 go_ret
 exact⟨rfl,bt⟩
abbrev VN(k F O W D:Int)(f t:P3):Value:=.agg #[.int .i64 k,.int .i64 F,.int .i64 O,.string ⟨(za f.x).toArray⟩,.string ⟨(za f.y).toArray⟩,.string ⟨(za f.z).toArray⟩,.string ⟨(za t.x).toArray⟩,.string ⟨(za t.y).toArray⟩,.string ⟨(za t.z).toArray⟩,.int .i64 W,.int .i64 D]
structure FOk (F O:Int):Prop where
 f0:0≤F
 o0:-1≤O
theorem zds{n:Nat}(k F O W D:Int)(hm:MOk k W D)(ho:FOk F O)(f t:P3)(hf:B3 n f)(ht:B3 n t)(hn:n≤300)(hlf:lg3 f=false)(hne:f≠t)(w:World)(hE:Env w) :
  CR 5 #[VN k F O W D f t] w (.int .i64 (if lg3 t=true then 4 else 0)):=by
 have HF:=LH (fun w hw=>zdz f hf (by omega) w hw)
 have HT:=LH (fun w hw=>zdz t ht (by omega) w hw)
 have hlff:=fun w hw=>zh8 f hf hn w hw
 rw[hlf]at hlff
 have HLF:=LH hlff
 have HLT:=LH (fun w hw=>zh8 t ht hn w hw)
 generalize lg3 t=B at *
 clear hlff hlf
 obtain⟨hf0,ho0⟩:=ho
 have hne':=zs8 hne
 obtain⟨hk1,hk2,hw1,hw2,hd1,hd2⟩:=hm
 have HO1:=LH (fun w=>zgf k 1 12 hk1 hk2 w)
 have HO2:=LH (fun w=>zgf W 1 1000 hw1 hw2 w)
 have HO3:=LH (fun w=>zgf D 1 1000 hd1 hd2 w)
 unfold VN V3 at *
 clear hf ht hne
 generalize za f.x=X at *
 generalize za f.y=Y at *
 generalize za f.z=Z at *
 generalize za t.x=X' at *
 generalize za t.y=Y' at *
 generalize za t.z=Z' at *
 go_enter Tryz.func5,Tryz.ntmps5
 go_wp2_with fail
 have A:=Blk.new w [.int .i64 k,.int .i64 F,.int .i64 O,.string ⟨X.toArray⟩,.string ⟨Y.toArray⟩,.string ⟨Z.toArray⟩,.string ⟨X'.toArray⟩,.string ⟨Y'.toArray⟩,.string ⟨Z'.toArray⟩,.int .i64 W,.int .i64 D] 26
 refine(HO1.out _).mono ?_
 rintro e w1⟨rfl,rfl⟩
 go_wp2_with fail
 refine(HO2.out _).mono ?_
 rintro e w1⟨rfl,rfl⟩
 go_wp2_with fail
 refine(HO3.out _).mono ?_
 rintro e w1⟨rfl,rfl⟩
 clear HO1 HO2 HO3
 go_wp2
 have S:=Blk.new1 w (.cells #[.int .i64 k,.int .i64 F,.int .i64 O,.string ⟨X.toArray⟩,.string ⟨Y.toArray⟩,.string ⟨Z.toArray⟩,.string ⟨X'.toArray⟩,.string ⟨Y'.toArray⟩,.string ⟨Z'.toArray⟩,.int .i64 W,.int .i64 D] 26) [.string ⟨X.toArray⟩,.string ⟨Y.toArray⟩,.string ⟨Z.toArray⟩,.string ⟨X'.toArray⟩,.string ⟨Y'.toArray⟩,.string ⟨Z'.toArray⟩] 24
 replace A:=A.alloc (.cells #[.string ⟨X.toArray⟩,.string ⟨Y.toArray⟩,.string ⟨Z.toArray⟩,.string ⟨X'.toArray⟩,.string ⟨Y'.toArray⟩,.string ⟨Z'.toArray⟩] 24)
 go_loopw [34] (fun i wr=>(i=.int .i64 0∨i=.int .i64 1∨i=.int .i64 2)∧Q w wr∧Blk wr w.heap.size [.int .i64 k,.int .i64 F,.int .i64 O,.string ⟨X.toArray⟩,.string ⟨Y.toArray⟩,.string ⟨Z.toArray⟩,.string ⟨X'.toArray⟩,.string ⟨Y'.toArray⟩,.string ⟨Z'.toArray⟩,.int .i64 W,.int .i64 D] 26∧Blk wr (w.heap.size+1) [.string ⟨X.toArray⟩,.string ⟨Y.toArray⟩,.string ⟨Z.toArray⟩,.string ⟨X'.toArray⟩,.string ⟨Y'.toArray⟩,.string ⟨Z'.toArray⟩] 24) (fun i _=>2 - (intOf i).toNat)
 case atStart=>exact⟨.inl rfl,bt,A,S⟩
 case round =>
  clear A S
  obtain⟨hi,hQ,A,S⟩:=hrel
  rcases hi with rfl | rfl | rfl
  ·have s0:=S.cell 0
   have s1:=S.cell 1
   have s2:=S.cell 2
   simp only[zs4,zs5]at s0 s1 s2
   go_wp2_with fail
   refine cx (HF.out _ (hE.ofQ bt)) fun w2 hq2=>?_
   have hs2:Q wr w2:=Q.trans bt hq2
   have hQ2:Q w w2:=Q.trans hQ hs2
   clear s0 s1 s2
   go_wp2
   go_roundw
   case rel=>exact⟨.inr (.inl rfl),hQ2,A.keep hs2 A.lt,S.keep hs2 S.lt⟩
   case measure=>simp[intOf]
  ·have s0:=S.cell 3
   have s1:=S.cell 4
   have s2:=S.cell 5
   simp only[zs4,zs5]at s0 s1 s2
   go_wp2_with fail
   refine cx (HT.out _ (hE.ofQ bt)) fun w2 hq2=>?_
   have hs2:Q wr w2:=Q.trans bt hq2
   have hQ2:Q w w2:=Q.trans hQ hs2
   clear s0 s1 s2
   go_wp2
   go_roundw
   case rel=>exact⟨.inr (.inr rfl),hQ2,A.keep hs2 A.lt,S.keep hs2 S.lt⟩
   case measure=>simp[intOf]
  ·clear S
   have a3:=A.cell 3
   have a4:=A.cell 4
   have a5:=A.cell 5
   have a6:=A.cell 6
   have a7:=A.cell 7
   have a8:=A.cell 8
   simp only[zs4,zs5]at a3 a4 a5 a6 a7 a8
   go_wp2_with fail
   refine cx (HLF.out _ (hE.ofQ bt)) fun w2 hq2=>?_
   have hs2:Q wr w2:=Q.trans bt hq2
   have hQ2:Q w w2:=Q.trans hQ hs2
   replace A:=A.keep hs2 A.lt
   replace a3:=A.cell 3
   replace a4:=A.cell 4
   replace a5:=A.cell 5
   replace a6:=A.cell 6
   replace a7:=A.cell 7
   replace a8:=A.cell 8
   simp only[zs4,zs5]at a3 a4 a5 a6 a7 a8
   go_wp2_with fail
   refine cx (HLT.out _ (hE.ofQ bt)) fun w3 hq3=>?_
   have hs3:Q w2 w3:=Q.trans bt hq3
   have hQ3:Q w w3:=Q.trans hQ2 hs3
   replace A:=A.keep hs3 A.lt
   replace a3:=A.cell 3
   replace a4:=A.cell 4
   replace a5:=A.cell 5
   replace a6:=A.cell 6
   replace a7:=A.cell 7
   replace a8:=A.cell 8
   simp only[zs4,zs5]at a3 a4 a5 a6 a7 a8
   cases B with
   | true =>
    go_wp2
    go_ret
    exact⟨rfl,hQ3⟩
   | false =>
    go_wp2
    all_goals first
     | (exfalso;subst_vars;simp at hne';done)
     | (go_ret;exact⟨rfl,hQ3⟩)
theorem zr2{n:Nat}(k F O W D:Int)(hm:MOk k W D)(ho:FOk F O)(f t:P3)(hf:B3 n f)(ht:B3 n t)(hn:n≤149)(hlf:lg3 f=false)(hlt:lg3 t=false)(hne:f≠t)(w:World)(hE:Env w) :
  CR 56 #[.agg #[.func (.func 55) #[] #[]],VN k F O W D f t] w (.tuple #[V3 (t.sub f),.int .i64 0]):=by
 have hc:=fun w hw=>zds k F O W D hm ho f t hf ht (by omega) hlf hne w hw
 rw[hlt,if_neg (by decide)]at hc
 have HC:=LH hc
 clear hc hlf hlt
 have HS:=LH (fun w hw=>zoK t f ht hf (by omega) w hw)
 unfold VN V3 at *
 clear hm ho hf ht hne
 generalize za (t.sub f).x=U at *
 generalize za (t.sub f).y=V at *
 generalize za (t.sub f).z=T at *
 generalize za f.x=X at *
 generalize za f.y=Y at *
 generalize za f.z=Z at *
 generalize za t.x=X' at *
 generalize za t.y=Y' at *
 generalize za t.z=Z' at *
 have HD:=LH (fun w=>zr3 U V T w)
 go_enter Tryz.func56,Tryz.ntmps56
 have hQ0:=Q.refl w
 go_wp2_with fail
 refine cx (HC.out _ (hE.ofQ bt)) fun w1 hq1=>?_
 have hs1:Q w w1:=Q.trans bt hq1
 have hQ1:Q w w1:=Q.trans hQ0 hs1
 have A:=((Blk.new w [.func (.func 55) #[] #[]] 118).alloc (.cells #[.int .i64 k,.int .i64 F,.int .i64 O,.string ⟨X.toArray⟩,.string ⟨Y.toArray⟩,.string ⟨Z.toArray⟩,.string ⟨X'.toArray⟩,.string ⟨Y'.toArray⟩,.string ⟨Z'.toArray⟩,.int .i64 W,.int .i64 D] 26) |>.alloc (.cells #[.string ⟨#[]⟩,.string ⟨#[]⟩,.string ⟨#[]⟩] 24) |>.alloc (.cells #[.string ⟨#[]⟩,.string ⟨#[]⟩,.string ⟨#[]⟩] 24)).keep hq1 (by first | (simp;done)|(simp;omega))
 have M:=((Blk.new1 w (.cells #[.func (.func 55) #[] #[]] 118) [.int .i64 k,.int .i64 F,.int .i64 O,.string ⟨X.toArray⟩,.string ⟨Y.toArray⟩,.string ⟨Z.toArray⟩,.string ⟨X'.toArray⟩,.string ⟨Y'.toArray⟩,.string ⟨Z'.toArray⟩,.int .i64 W,.int .i64 D] 26).alloc (.cells #[.string ⟨#[]⟩,.string ⟨#[]⟩,.string ⟨#[]⟩] 24) |>.alloc (.cells #[.string ⟨#[]⟩,.string ⟨#[]⟩,.string ⟨#[]⟩] 24)).keep hq1 (by first | (simp;done)|(simp;omega))
 have R:=((Blk.new2 w (.cells #[.func (.func 55) #[] #[]] 118) (.cells #[.int .i64 k,.int .i64 F,.int .i64 O,.string ⟨X.toArray⟩,.string ⟨Y.toArray⟩,.string ⟨Z.toArray⟩,.string ⟨X'.toArray⟩,.string ⟨Y'.toArray⟩,.string ⟨Z'.toArray⟩,.int .i64 W,.int .i64 D] 26) [.string ⟨#[]⟩,.string ⟨#[]⟩,.string ⟨#[]⟩] 24).alloc (.cells #[.string ⟨#[]⟩,.string ⟨#[]⟩,.string ⟨#[]⟩] 24)).keep hq1 (by first | (simp;done)|(simp;omega))
 replace a0:=A.cell
 replace lA:=A.lt
 replace m0:=M.cell
 replace lM:=M.lt
 replace r0:=R.cell
 replace lR:=R.lt
 go_wp2_with fail
 refine cx (HS.out _ (hE.ofQ bt)) fun w2 hq2=>?_
 have hs2:Q w1 w2:=Q.trans bt hq2
 have hQ2:Q w w2:=Q.trans hQ1 hs2
 replace A:=A.keep hs2 A.lt
 replace a0:=A.cell
 replace lA:=A.lt
 replace M:=M.keep hs2 M.lt
 replace m0:=M.cell
 replace lM:=M.lt
 replace R:=R.keep hs2 R.lt
 replace r0:=R.cell
 replace lR:=R.lt
 clear M lM m0
 clear HC HS
 go_wp2_with fail
 have f0:=R.frozen 0
 have f1:=R.frozen 1
 have f2:=R.frozen 2
 refine cx (HD.out _) fun w3 hq3=>?_
 have hs3:Q w2 w3:=Q.trans bt hq3
 have hQ3:Q w w3:=Q.trans hQ2 hs3
 replace R:=R.keep hs3 R.lt
 clear f0 f1 f2
 have f0:=R.frozen 0
 have f1:=R.frozen 1
 have f2:=R.frozen 2
 clear A lA a0
 replace r0:=R.cell
 go_wp2
 refine bodyPost_ret (v:=.tuple #[.agg #[.string ⟨U.toArray⟩,.string ⟨V.toArray⟩,.string ⟨T.toArray⟩],.int .i64 0]) (zi3 Tryz.results56 (.inl rfl) _ _ (w.heap.size+2) _ _ _ _ rfl rfl (R.set3.cell 0) (R.set3.cell 1) (R.set3.cell 2)) rfl ⟨rfl,bt⟩
theorem zfj{n:Nat}(k F O W D:Int)(hm:MOk k W D)(ho:FOk F O)(f t:P3)(hf:B3 n f)(ht:B3 n t)(hn:n≤149)(hlf:lg3 f=false)(hlt:lg3 t=false)(hne:f≠t)(w:World)(hE:Env w) :
  CR 22 #[VN k F O W D f t] w (.tuple #[V3 (t.sub f),.int .i64 0]):=by
 have HS:=LH (fun w hw=>zr2 k F O W D hm ho f t hf ht hn hlf hlt hne w hw)
 unfold VN V3 at *
 clear hm ho hf ht hne hlf hlt
 generalize za (t.sub f).x=U at *
 generalize za (t.sub f).y=V at *
 generalize za (t.sub f).z=T at *
 generalize za f.x=X at *
 generalize za f.y=Y at *
 generalize za f.z=Z at *
 generalize za t.x=X' at *
 generalize za t.y=Y' at *
 generalize za t.z=Z' at *
 go_enter Tryz.func22,Tryz.ntmps22
 have hQ0:=Q.refl w
 go_wp2_with fail
 refine cx (HS.out _ (hE.ofQ bt)) fun w1 hq1=>?_
 have hs1:Q w w1:=Q.trans bt hq1
 have hQ1:Q w w1:=Q.trans hQ0 hs1
 have R:=(Blk.new1 w (.cells #[.int .i64 k,.int .i64 F,.int .i64 O,.string ⟨X.toArray⟩,.string ⟨Y.toArray⟩,.string ⟨Z.toArray⟩,.string ⟨X'.toArray⟩,.string ⟨Y'.toArray⟩,.string ⟨Z'.toArray⟩,.int .i64 W,.int .i64 D] 26) [.string ⟨#[]⟩,.string ⟨#[]⟩,.string ⟨#[]⟩] 24).keep hq1 (by first | (simp;done)|(simp;omega))
 have f0:=R.frozen 0
 have f1:=R.frozen 1
 have f2:=R.frozen 2
 replace r0:=R.cell
 replace lR:=R.lt
 go_wp2
 refine bodyPost_ret (v:=.tuple #[.agg #[.string ⟨U.toArray⟩,.string ⟨V.toArray⟩,.string ⟨T.toArray⟩],.int .i64 0]) (zi3 Tryz.results22 (.inl rfl) _ _ (w.heap.size+1) _ _ _ _ rfl rfl (R.set3.cell 0) (R.set3.cell 1) (R.set3.cell 2)) rfl ⟨rfl,bt⟩
end
section
open Go.RowKit Kp
attribute [local go_sem] Oper.semAt_some
theorem zfB(a b c d : Int)(ha : lim a = false)(hb : lim b = false)(hc : lim c = false)(hd : lim d = false)(h : lim (a * d) = true ∨ lim (c * b) = true)(w : World)(hE : Env w) :
    Calls Tryz.prog 63 #[.agg #[.string ⟨(Lib.itoa a).toArray⟩, .string ⟨(Lib.itoa b).toArray⟩], .agg #[.string ⟨(Lib.itoa c).toArray⟩, .string ⟨(Lib.itoa d).toArray⟩]] w fun e w' => (∃ u v, e = .returned (.tuple #[.string u, .string v, .int .i64 4])) ∧ Q w w' := by
  have M1 := LH (fun w hw => zal a d ha hd w hw)
  have M2 := LH (fun w hw => zal c b hc hb w hw)
  cases h1 : lim (a * d)with
  | true =>
    rw[zhp h1]at M1
    clear ha hb hc hd h1 h M2
    generalize Lib.itoa a = A at *
    generalize Lib.itoa b = B at *
    generalize Lib.itoa c = C at *
    generalize Lib.itoa d = D at *
    go_enter Tryz.func63, Tryz.ntmps63
    go_wp2_with fail
    refine cx (M1.out _ (hE.q bt)) fun w1 hq1 => ?_
    have hQ1 : Q w w1 := Q.trans (show Below w.heap.size w _ from bt) hq1
    go_wp2
    go_ret3
    exact⟨⟨_, _, rfl⟩, hQ1⟩
  | false =>
    have h2 : lim (c * b) = true := by rcases h with h | h; · rw [h1] at h; cases h
                                       exact h
    rw[zbv h1]at M1
    rw[zhp h2]at M2
    clear ha hb hc hd h1 h2 h
    generalize Lib.itoa (a * d) = X at *
    generalize Lib.itoa a = A at *
    generalize Lib.itoa b = B at *
    generalize Lib.itoa c = C at *
    generalize Lib.itoa d = D at *
    go_enter Tryz.func63, Tryz.ntmps63
    go_wp2_with fail
    refine cx (M1.out _ (hE.q bt)) fun w1 hq1 => ?_
    have B1 := ((Blk.new w [.string ⟨A.toArray⟩, .string ⟨B.toArray⟩] 120).alloc (.cells #[.string ⟨C.toArray⟩, .string ⟨D.toArray⟩] 120)).keep hq1 (by simp;omega)
    have B2 := (Blk.new (w.alloc (.cells #[.string ⟨A.toArray⟩, .string ⟨B.toArray⟩] 120)) [.string ⟨C.toArray⟩, .string ⟨D.toArray⟩] 120).keep hq1 (by simp)
    rw[World.size_alloc]at B2
    have hQ1 : Q w w1 := Q.trans (show Below w.heap.size w _ from bt) hq1
    have c0 := B1.cell
    have d0 := B2.cell
    go_wp2_with fail
    refine cx (M2.out _ (hE.q hQ1)) fun w2 hq2 => ?_
    have hQ2 := Q.trans hQ1 hq2
    clear M1 M2 c0 d0
    go_wp2
    go_ret3
    exact⟨⟨_, _, rfl⟩, hQ2⟩
def zlY(x y:Rat):Bool:=lim (x.num*y.den) || lim (y.num*(x.den:Int)) || lim (x.num*y.den+y.num*x.den) || lim ((x.den:Int)*y.den)
theorem zdU(a b c d : Int)(ha : lim a = false)(hb : lim b = false)(hc : lim c = false)(hd : lim d = false)(h : (lim (a * d) || lim (c * b) || lim (a * d + c * b) || lim (b * d)) = true)(w : World)(hE : Env w)
    (p : Nat)(hpc : w.cell? ⟨p, 0, none⟩ = some (.func (.func 45) #[] #[]))(_hp : p < w.heap.size) :
    CR 81 #[.agg #[.string ⟨(Lib.itoa a).toArray⟩, .string ⟨(Lib.itoa b).toArray⟩], .agg #[.string ⟨(Lib.itoa c).toArray⟩, .string ⟨(Lib.itoa d).toArray⟩], .pointer (some ⟨p, 0, none⟩)] w (.tuple #[.string ⟨#[]⟩, .int .i64 4]) := by
  have M3 := LH (fun w hw => zal b d hb hd w hw)
  by_cases hx : lim (a * d) = true ∨ lim (c * b) = true
  · have M1 := LH (fun w hw => zfB a b c d ha hb hc hd hx w hw)
    clear ha hb hc hd hx h M3
    generalize Lib.itoa a = A at *
    generalize Lib.itoa b = B at *
    generalize Lib.itoa c = C at *
    generalize Lib.itoa d = D at *
    go_enter Tryz.func81, Tryz.ntmps81
    go_wp2_with fail
    refine(M1.out _ (hE.q bt)).mono ?_
    rintro e w1⟨⟨u, v, rfl⟩, hq1⟩
    have hQ1 : Q w w1 := Q.trans (show Below w.heap.size w _ from bt) hq1
    go_wp2
    go_ret2
    exact⟨rfl, hQ1⟩
  · have h1 : lim (a * d) = false := by cases hh : lim (a * d); · rfl
                                        exact absurd (.inl hh) hx
    have h2 : lim (c * b) = false := by cases hh : lim (c * b); · rfl
                                        exact absurd (.inr hh) hx
    have M1 := LH (fun w hw => zbw a b c d ha hb hc hd h1 h2 w hw)
    have M2 := LH (fun w hw => zbs (a * d) (c * b) h1 h2 w hw)
    rw[h1, h2, Bool.false_or, Bool.false_or]at h
    cases h3 : lim (a * d + c * b)with
    | true =>
      rw[zhp h3]at M2
      clear ha hb hc hd h1 h2 h3 h hx M3
      generalize Lib.itoa (a * d) = X at *
      generalize Lib.itoa (c * b) = Y at *
      generalize Lib.itoa a = A at *
      generalize Lib.itoa b = B at *
      generalize Lib.itoa c = C at *
      generalize Lib.itoa d = D at *
      go_enter Tryz.func81, Tryz.ntmps81
      go_wp2_with fail
      refine cx (M1.out _ (hE.q bt)) fun w1 hq1 => ?_
      have hQ1 : Q w w1 := Q.trans (show Below w.heap.size w _ from bt) hq1
      have pc1 := ze hQ1 hpc
      go_wp2_with fail
      refine cx (M2.out _ (hE.q hQ1)) fun w2 hq2 => ?_
      have hQ2 := Q.trans hQ1 hq2
      go_wp2
      go_ret2
      exact⟨rfl, hQ2⟩
    | false =>
      rw[h3, Bool.false_or]at h
      rw[zbv h3]at M2
      rw[zhp h]at M3
      clear ha hb hc hd h1 h2 h3 h hx
      generalize Lib.itoa (a * d + c * b) = Z at *
      generalize Lib.itoa (a * d) = X at *
      generalize Lib.itoa (c * b) = Y at *
      generalize Lib.itoa a = A at *
      generalize Lib.itoa b = B at *
      generalize Lib.itoa c = C at *
      generalize Lib.itoa d = D at *
      go_enter Tryz.func81, Tryz.ntmps81
      go_wp2_with fail
      refine cx (M1.out _ (hE.q bt)) fun w1 hq1 => ?_
      have B1 := ((Blk.new w [.string ⟨A.toArray⟩, .string ⟨B.toArray⟩] 120).alloc (.cells #[.string ⟨C.toArray⟩, .string ⟨D.toArray⟩] 120)).keep hq1 (by simp;omega)
      have B2 := (Blk.new (w.alloc (.cells #[.string ⟨A.toArray⟩, .string ⟨B.toArray⟩] 120)) [.string ⟨C.toArray⟩, .string ⟨D.toArray⟩] 120).keep hq1 (by simp)
      rw[World.size_alloc]at B2
      have hQ1 : Q w w1 := Q.trans (show Below w.heap.size w _ from bt) hq1
      have pc1 := ze hQ1 hpc
      go_wp2_with fail
      refine cx (M2.out _ (hE.q hQ1)) fun w2 hq2 => ?_
      have hQ2 := Q.trans hQ1 hq2
      have C1 := B1.keep hq2 B1.lt
      have C2 := B2.keep hq2 B2.lt
      have c0 := C1.cell
      have d0 := C2.cell
      clear pc1 M1 M2
      go_wp2_with fail
      refine cx (M3.out _ (hE.q hQ2)) fun w3 hq3 => ?_
      have hQ3 := Q.trans hQ2 hq3
      clear c0 d0 M3
      go_wp2
      go_ret2
      exact⟨rfl, hQ3⟩
theorem zin(x y:Rat)(hx:zak x=false)(hy:zak y=false)(h:zlY x y=true)(w:World)(hE:Env w) :
  CR 12 #[.string ⟨(za x).toArray⟩,.string ⟨(za y).toArray⟩] w (.tuple #[.string ⟨#[]⟩,.int .i64 4]):=by
 have hs:¬ (zy x∧zy y):=by
  rintro⟨a,b⟩
  have hb:∀ q:Rat,zy q→Bd 8 q:=fun q hq=>⟨by have:=hq.1;omega,by have:=hq.2;omega⟩
  have hxb:=hb x a
  have hyb:=hb y b
  unfold zlY at h
  rw[zaO (zbR hxb hyb) (by decide),zaO (zbR hyb hxb) (by decide),zaO (sum_lt hxb hyb).1 (by decide),zaO (n:=16) (by rw[← Int.natCast_mul,Int.natAbs_natCast];exact zch hxb hyb) (by decide)]at h
  cases h
 have HQ:=LH (fun w=>zaI (za x) (za y) (.func (.func 44) #[] #[]) (by have:=zaQ hx;omega) (by have:=zaQ hy;omega) (zbr hs) w)
 have HF:=fun w' hw' p hp hpc=>zdU x.num (x.den:Int) y.num (y.den:Int) (zw hx).1 (zw hx).2 (zw hy).1 (zw hy).2 h w' hw' p hpc hp
 have HB:=LH (fun w (hw:Env w) p (hp:p<w.heap.size) (hpc:w.cell? ⟨p,0,none⟩=some (.func (.func 45) #[] #[]))=>zcn x y hx hy p _ _ w hw (fun w' hq=>HF w' (hw.q hq) p (Nat.lt_of_lt_of_le hp hq.size) (ze hq hpc)))
 have HC:=LH (fun w=>zbV 45 w)
 clear HF hs hx hy h
 go_enter Tryz.func12,Tryz.ntmps12
 go_wp2_with fail
 refine cx (HQ.out _) fun w1 hq1=>?_
 go_wp2_with fail
 refine(HC.out _).mono ?_
 rintro e w2⟨rfl,hq2,hp,hpc⟩
 have hQ2:=Q.trans hq1 hq2
 go_wp2_with fail
 refine cx (HB.out _ (hE.q hQ2) _ hp hpc) fun w3 hq3=>?_
 have hQ3:=Q.trans hQ2 hq3
 go_wp2
 go_ret2
 exact⟨rfl,hQ3⟩
def mulL(x y:Rat):Bool:=lim (x.num*y.num) || lim ((x.den:Int)*y.den)
theorem zhw(a b c d:Int)(ha:lim a=false)(hb:lim b=false)(hc:lim c=false)(hd:lim d=false)(h:(lim (a*c) || lim (b*d))=true)(w:World)(hE:Env w) :
  CR 58 #[.agg #[.string ⟨(Lib.itoa a).toArray⟩,.string ⟨(Lib.itoa b).toArray⟩],.agg #[.string ⟨(Lib.itoa c).toArray⟩,.string ⟨(Lib.itoa d).toArray⟩]] w (.tuple #[.string ⟨#[]⟩,.int .i64 4]):=by
 have M1:=LH (fun w hw=>zal a c ha hc w hw)
 have M2:=LH (fun w hw=>zal b d hb hd w hw)
 cases h1:lim (a*c)with
 | true =>
  rw[zhp h1]at M1
  clear ha hb hc hd h1 h M2
  generalize Lib.itoa a=A at *
  generalize Lib.itoa b=B at *
  generalize Lib.itoa c=C at *
  generalize Lib.itoa d=D at *
  go_enter Tryz.func58,Tryz.ntmps58
  go_wp2_with fail
  refine cx (M1.out _ (hE.q bt)) fun w1 hq1=>?_
  have hQ1:Q w w1:=Q.trans (show Below w.heap.size w _ from bt) hq1
  go_wp2
  go_ret2
  exact⟨rfl,hQ1⟩
 | false =>
  rw[h1,Bool.false_or]at h
  rw[zbv h1]at M1
  rw[zhp h]at M2
  clear ha hb hc hd h1 h
  generalize Lib.itoa (a*c)=X at *
  generalize Lib.itoa a=A at *
  generalize Lib.itoa b=B at *
  generalize Lib.itoa c=C at *
  generalize Lib.itoa d=D at *
  go_enter Tryz.func58,Tryz.ntmps58
  go_wp2_with fail
  refine cx (M1.out _ (hE.q bt)) fun w1 hq1=>?_
  have B1:=((Blk.new w [.string ⟨A.toArray⟩,.string ⟨B.toArray⟩] 120).alloc (.cells #[.string ⟨C.toArray⟩,.string ⟨D.toArray⟩] 120)).keep hq1 (by simp;omega)
  have B2:=(Blk.new (w.alloc (.cells #[.string ⟨A.toArray⟩,.string ⟨B.toArray⟩] 120)) [.string ⟨C.toArray⟩,.string ⟨D.toArray⟩] 120).keep hq1 (by simp)
  rw[World.size_alloc]at B2
  have hQ1:Q w w1:=Q.trans (show Below w.heap.size w _ from bt) hq1
  have c0:=B1.cell
  have d0:=B2.cell
  go_wp2_with fail
  refine cx (M2.out _ (hE.q hQ1)) fun w2 hq2=>?_
  have hQ2:=Q.trans hQ1 hq2
  clear M1 M2 c0 d0
  go_wp2
  go_ret2
  exact⟨rfl,hQ2⟩
theorem zim(x y:Rat)(hx:zak x=false)(hy:zak y=false)(h:mulL x y=true)(w:World)(hE:Env w) :
  CR 24 #[.string ⟨(za x).toArray⟩,.string ⟨(za y).toArray⟩] w (.tuple #[.string ⟨#[]⟩,.int .i64 4]):=by
 have hs:¬ (zy x∧zy y):=by
  rintro⟨a,b⟩
  have hb:∀ q:Rat,zy q→Bd 8 q:=fun q hq=>⟨by have:=hq.1;omega,by have:=hq.2;omega⟩
  have hxb:=hb x a
  have hyb:=hb y b
  unfold mulL at h
  rw[zaO (za6 hxb.1 hyb.1) (by decide),zaO (n:=16) (by rw[← Int.natCast_mul,Int.natAbs_natCast];exact zch hxb hyb) (by decide)]at h
  cases h
 have HQ:=LH (fun w=>zaI (za x) (za y) (.func (.func 57) #[] #[]) (by have:=zaQ hx;omega) (by have:=zaQ hy;omega) (zbr hs) w)
 have HF:=fun w' hw'=>zhw x.num (x.den:Int) y.num (y.den:Int) (zw hx).1 (zw hx).2 (zw hy).1 (zw hy).2 h w' hw'
 have HB:=LH (fun w (hw:Env w)=>zd5 x y hx hy _ _ w hw (fun w' hq=>HF w' (hw.q hq)))
 clear HF hs hx hy h
 go_enter Tryz.func24,Tryz.ntmps24
 go_wp2_with fail
 refine cx (HQ.out _) fun w1 hq1=>?_
 go_wp2_with fail
 refine cx (HB.out _ (hE.q hq1)) fun w2 hq2=>?_
 have hQ2:=Q.trans hq1 hq2
 go_wp2
 go_ret2
 exact⟨rfl,hQ2⟩
def zue(x y:Rat):Value:=if mulL x y=true then .tuple #[.string ⟨#[]⟩,.int .i64 4]else .tuple #[.string ⟨(za (x*y)).toArray⟩,.int .i64 0]
def zuF(x y:Rat):Value:=if zlY x y=true then .tuple #[.string ⟨#[]⟩,.int .i64 4]else .tuple #[.string ⟨(za (x+y)).toArray⟩,.int .i64 0]
theorem zcX(x y:Rat)(hx:zak x=false)(hy:zak y=false)(w:World)(hE:Env w) :
  CR 24 #[.string ⟨(za x).toArray⟩,.string ⟨(za y).toArray⟩] w (zue x y):=by
 unfold zue
 cases h:mulL x y with
 | true=>exact zim x y hx hy h w hE
 | false =>
  have h':=h
  unfold mulL at h'
  rw[Bool.or_eq_false_iff]at h'
  exact zhZ x y hx hy h'.1 h'.2 w hE
theorem zio(x y:Rat)(hx:zak x=false)(hy:zak y=false)(w:World)(hE:Env w) :
  CR 12 #[.string ⟨(za x).toArray⟩,.string ⟨(za y).toArray⟩] w (zuF x y):=by
 unfold zuF
 cases h:zlY x y with
 | true=>exact zin x y hx hy h w hE
 | false =>
  have h':=h
  unfold zlY at h'
  simp only[Bool.or_eq_false_iff]at h'
  exact zh1 x y hx hy h'.1.1.1 h'.1.1.2 h'.1.2 h'.2 w hE
theorem zi1{n d:Int}(hn:lim n=false)(hd:lim d=false)(h0:0<d):zak (Rat.divInt n d)=false:=by
 obtain⟨k,rfl⟩:=Int.eq_ofNat_of_zero_le (show 0≤d by omega)
 obtain⟨e1,e2⟩:=zcg n k (by omega)
 unfold zak
 rw[e1,e2,zcv hn ?_,zcv hd ?_]
 ·rfl
 ·rw[Int.natAbs_natCast];exact Nat.div_le_self ..
 ·rw[Int.natAbs_tdiv];exact Nat.div_le_self ..
theorem zgU{x y:Rat}(h:mulL x y=false):zak (x*y)=false:=by
 unfold mulL at h
 rw[Bool.or_eq_false_iff]at h
 rw[← Rat.mul_is]
 exact zi1 h.1 h.2 (Int.mul_pos (by have:=x.den_pos;omega) (by have:=y.den_pos;omega))
theorem zpR{x y:Rat}(h:zlY x y=false):zak (x+y)=false:=by
 unfold zlY at h
 simp only[Bool.or_eq_false_iff]at h
 rw[← Rat.add_is]
 exact zi1 h.1.2 h.2 (Int.mul_pos (by have:=x.den_pos;omega) (by have:=y.den_pos;omega))
end
end Go.Proofs.YtdecodpgdainiaaGreatDoor
