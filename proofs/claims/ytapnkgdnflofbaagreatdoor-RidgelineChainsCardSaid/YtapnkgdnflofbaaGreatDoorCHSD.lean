/-
  BT BU BV BW BX Rn2 BY BZ CA CB CC and the beginning of CD, one behind the other: rational, root, surd at one term, timber at any number.
-/
import Derived.Test.YtapnkgdnflofbaaGreatDoorCHBS
import Derived.Test.YtapnkgdnflofbaaGreatDoorCH04
import Derived.Test.YtapnkgdnflofbaaGreatDoorCHBI1
import Derived.Test.YtapnkgdnflofbaaGreatDoorCH07
set_option maxRecDepth 100000
set_option maxHeartbeats 2000000
namespace Go.Proofs.YtapnkgdnflofbaaGreatDoor
section
open Go.RowKit Kp
open Go.Lib (decDigits)
theorem zeN{a:Str}(h:zdc a≠11):Lib.itoa (ival a)=a∧(zdc a=4 ↔ 300<(zo a).length):=by
 rcases zjU a with h0 | h4 | h11
 ·refine⟨(zeO h0).1,?_⟩
  unfold zdc at h0 ⊢
  split at h0
  ·cases h0
  ·split at h0
   ·cases h0
   ·next h1 h2 =>
    rw[if_neg h1,if_neg h2]
    exact⟨fun e=>absurd e (by decide),fun e=>absurd e h2⟩
 ·unfold zdc at h4 ⊢
  split at h4
  ·cases h4
  ·next h1 =>
   split at h4
   ·next h2 =>
    rw[if_neg h1,if_pos h2]
    refine⟨?_,fun _=>h2,fun _=>rfl⟩
    simp only[not_or,Classical.not_not,not_and]at h1
    obtain⟨ne,hz,hd⟩:=h1
    have hh:(zo a).head?≠some 48:=fun e=>by
     have:=hz e
     have h3:zo a=[48]∨a=[48]:=by
      first | exact .inl this.2 | exact .inl this | exact .inr this | exact .inr this.2
     rcases h3 with h3 | h3
     ·rw[h3]at h2;simp at h2
     ·rw[h3]at h2;simp[zo]at h2
    have hdd:=zbL (zo a) ne hd (fun e=>absurd e hh)
    by_cases hm:a.head? = some 45
    ·have hc:=zdG hm
     have hpos:nval (zo a)≠0:=by
      intro e;rw[e]at hdd;rw[← hdd]at hh;exact hh (by simp[decDigits])
     have hv:ival a = -(nval (zo a):Int):=by
      unfold ival;rw[if_pos hm];unfold zo;rw[if_pos hm]
     rw[hv,itoa_neg (by omega),show (-(nval (zo a):Int)).natAbs=nval (zo a) by omega,hdd]
     exact hc.symm
    ·have hc:=za3 hm
     rw[hc]at hdd
     unfold ival
     rw[if_neg hm,itoa_nonneg (by omega),Int.toNat_natCast,hdd]
   ·cases h4
 ·exact absurd h11 h
theorem zin(a:Str)(h:¬ zly a) :
  (zcg a=4∧zcm a=none∧300<(zo (zq a)).length)∨(zcg a=4∧zcm a=none∧(zo (zq a)).length≤300∧300<(zal a).length) ∨
  ((zo (zq a)).length≤300∧(zal a).length≤300∧∃ (z:Int) (k:Nat),0<k∧zq a=Lib.itoa z∧zal a=Lib.itoa (k:Int)∧lim z=false∧lim (k:Int)=false∧zcg a=if Nat.gcd z.natAbs k=1 then 0 else 11):=by
 have hb:=h
 unfold zly at hb
 simp only[not_or,not_and]at hb
 obtain⟨f1,f2⟩:=zeN hb.1
 have hd:zdc (zal a)≠11∧(zal a).head?≠some 45∧zal a≠[48]:=by
  by_cases hs:zC a=true
  ·obtain⟨b1,b2,b3,b4⟩:=hb.2 hs
   unfold zal;rw[if_pos hs]
   exact⟨b1,b2,b3⟩
  ·unfold zal;rw[if_neg hs]
   exact⟨by rw[← zai];exact zcv 1,by decide,by decide⟩
 obtain⟨g1,g2⟩:=zeN hd.1
 rw[za3 hd.2.1]at g2
 have hn:zcg a≠0→zcm a=none:=zlO
 by_cases c1:300<(zo (zq a)).length
 ·have hr:zcg a=4:=by unfold zcg;rw[if_neg h,if_pos (.inl (f2.2 c1))]
  exact .inl ⟨hr,hn (by rw[hr];decide),c1⟩
 ·by_cases c2:300<(zal a).length
  ·have hr:zcg a=4:=by unfold zcg;rw[if_neg h,if_pos (.inr (g2.2 c2))]
   exact .inr (.inl ⟨hr,hn (by rw[hr];decide),by omega,c2⟩)
  ·refine .inr (.inr ⟨by omega,by omega,ival (zq a),(ival (zal a)).toNat,?_⟩)
   have hd0:0≤ival (zal a):=by unfold ival;rw[if_neg hd.2.1];omega
   have hd1:ival (zal a)≠0:=fun e=>by rw[e,zae]at g1;exact hd.2.2 g1.symm
   have ec:((ival (zal a)).toNat:Int)=ival (zal a):=by omega
   have z1:zdc (zq a)=0:=zdl hb.1 (fun e=>c1 (f2.1 e))
   have z2:zdc (zal a)=0:=zdl hd.1 (fun e=>c2 (g2.1 e))
   refine⟨by omega,f1.symm,by rw[ec];exact g1.symm,(zeO z1).2,by rw[ec];exact(zeO z2).2,?_⟩
   unfold zcg
   rw[if_neg h,if_neg (by rw[z1,z2];rintro(x | x) <;> cases x),show (ival (zal a)).toNat=(ival (zal a)).natAbs by omega]
   by_cases hg:Nat.gcd (ival (zq a)).natAbs (ival (zal a)).natAbs=1
   ·rw[if_neg (by simpa using hg),if_pos hg]
   ·rw[if_pos hg,if_neg hg]
def zio(a:Str):Value:=if zcg a=0 then .tuple #[.agg #[.string ⟨(zq a).toArray⟩,.string ⟨(zal a).toArray⟩],.int .i64 0]else .tuple #[.agg #[.string ⟨#[]⟩,.string ⟨#[]⟩],.int .i64 (zcg a)]
theorem zf2(a:Str)(hl:a.length≤1000000000)(w:World)(hE:Env w) :
  CR 81 #[.string ⟨a.toArray⟩] w (zio a):=by
 have hrb:zly a→zcg a=11:=fun h=>by unfold zcg;rw[if_pos h]
 have hcut:=LH (fun w hw=>zlz a hl w hw)
 have hnat:=LH (fun w=>zH a hl w)
 by_cases hb:zly a
 ·have hv:zio a=.tuple #[.agg #[.string ⟨#[]⟩,.string ⟨#[]⟩],.int .i64 11]:=by unfold zio;rw[hrb hb,if_neg (by decide)]
  have hc:cutV a=.tuple #[.agg #[.string ⟨#[]⟩,.string ⟨#[]⟩],.bool false]:=by unfold cutV;rw[if_pos hb]
  rw[hc]at hcut
  rw[hv]
  clear hb hrb hnat hv hc
  go_enter Tryz.func81,Tryz.ntmps81
  go_wp2_with fail
  refine cx (hcut.out _ (hE.q bt)) fun w1 hq1=>?_
  have hz1:=hq1.size
  rw[World.size_alloc]at hz1
  have hQ1:Q w w1:=(show Below w.heap.size w _ from bt).trans (hq1.mono (by simp))
  have B1:=(Blk.new w [.string ⟨#[]⟩,.string ⟨#[]⟩] 133).keep hq1 (by simp)
  have B1':=B1.alloc (.cells #[.string ⟨#[]⟩,.string ⟨#[]⟩] 133)
  have c0:=B1'.cell
  have f0:=B1'.frozen 0
  have f1:=B1'.frozen 1
  go_wp2_with fail
  refine bodyPost_ret (v:=.tuple #[.agg #[.string ⟨#[]⟩,.string ⟨#[]⟩],.int .i64 11])
   (zd0 _ _ w.heap.size _ _ _ rfl rfl (((B1'.set 0 _).set 1 _).cell 0) (((B1'.set 0 _).set 1 _).cell 1)) rfl ⟨rfl,?_⟩
  exact((hQ1.alloc (by omega) _).setCell (p:=⟨w.heap.size,0,none⟩) (Nat.le_refl _) _).setCell (p:=⟨w.heap.size,1,none⟩) (Nat.le_refl _) _
 ·have hc:cutV a=.tuple #[.agg #[.string ⟨(zq a).toArray⟩,.string ⟨(zal a).toArray⟩],.bool true]:=by unfold cutV;rw[if_neg hb]
  rw[hc]at hcut
  have hw:=zin a hb
  have hun:=zdF (zq a)
  have hnl:=zd8 a
  have hdl:(zal a).length≤a.length+1:=by
   unfold zal;split
   ·have:=zee a;omega
   ·simp
  have HG:=LH (fun(z:Int) (k:Nat) h1 h2 w hw=>zfK z (k:Int) h1 h2 w hw)
  obtain⟨V,hV⟩:∃ V,zio a=V:=⟨_,rfl⟩
  rw[hV]
  unfold zio at hV
  generalize zq a=N at *
  generalize zal a=D at *
  have HV:=LH hV
  clear hV
  clear hc hrb hb
  go_enter Tryz.func81,Tryz.ntmps81
  go_wp2_with fail
  refine cx (hcut.out _ (hE.q bt)) fun w1 hq1=>?_
  have hz1:=hq1.size
  rw[World.size_alloc]at hz1
  have hQ1:Q w w1:=(show Below w.heap.size w _ from bt).trans (hq1.mono (by simp))
  have B1:=(Blk.new w [.string ⟨#[]⟩,.string ⟨#[]⟩] 133).keep hq1 (by simp)
  go_wp2_with fail
  refine cx (hnat.out _) fun w2 hq2=>?_
  have hz2:=hq2.size
  rw[World.size_alloc]at hz2
  have hQ2:Q w w2:=Q.trans hQ1 (Q.trans ((Below.refl _ w1).alloc (Nat.le_refl _) _) hq2)
  have B2:=(Blk.new w1 [.string ⟨N.toArray⟩,.string ⟨D.toArray⟩] 133).keep hq2 (by simp)
  have B1':=(B1.keep (Below.refl (w1.heap.size) w1 |>.alloc (Nat.le_refl _) (.cells #[.string ⟨N.toArray⟩,.string ⟨D.toArray⟩] 133)) (by omega)).keep hq2 (by simp;omega)
  have c0:=B1'.cell
  have f0:=B1'.frozen 0
  have f1:=B1'.frozen 1
  have d0:=B2.cell
  have l1:=B1'.lt
  have l2:=B2.lt
  cases hno:zcm a with
  | some nd =>
   obtain⟨n,d⟩:=nd
   rw[zd9 hno]
   obtain⟨q,hq,-,-,hs⟩:=zgZ hno
   have hr0:zcg a=0:=by
    have:zcm a≠none:=by rw[hno];simp
    by_cases h:zcg a=0
    ·exact h
    ·exact absurd (zlO h) this
   have HW:Hid (V=.tuple #[.agg #[.string ⟨N.toArray⟩,.string ⟨D.toArray⟩],.int .i64 0]):=LH (by rw[← HV.out,hr0,if_pos rfl])
   clear hno hs hq hw
   go_wp2_with fail
   refine bodyPost_ret (v:=.tuple #[.agg #[.string ⟨N.toArray⟩,.string ⟨D.toArray⟩],.int .i64 0])
    (zd0 _ _ w.heap.size _ _ _ rfl rfl ((((B1'.set 0 _).set 1 _).alloc _).cell 0) ((((B1'.set 0 _).set 1 _).alloc _).cell 1)) rfl ⟨by rw[HW.out],?_⟩
   exact((hQ2.setCell (p:=⟨w.heap.size,0,none⟩) (Nat.le_refl _) _).setCell (p:=⟨w.heap.size,1,none⟩) (Nat.le_refl _) _).alloc (by simp;omega) _
  | none =>
   rw[zc4 hno]
   clear hno
   rcases hw with⟨hr,-,h1⟩|⟨hr,-,h1,h2⟩|⟨h1,h2,z,k,hk,rfl,rfl,hz,hk2,hr⟩
   ·have HW:Hid (V=.tuple #[.agg #[.string ⟨#[]⟩,.string ⟨#[]⟩],.int .i64 4]):=LH (by rw[← HV.out,hr,if_neg (by decide)])
    have h1':(300:Int)<((zo N).length:Int):=by omega
    clear hr
    go_wp2_with (go_at_call 155;refine(zP N _).mono ?_;rintro e w3 ⟨rfl,rfl⟩)
    refine bodyPost_ret (v:=.tuple #[.agg #[.string ⟨#[]⟩,.string ⟨#[]⟩],.int .i64 4])
     (zd0 _ _ w.heap.size _ _ _ rfl rfl ((((B1'.set 0 _).set 1 _).alloc _).cell 0) ((((B1'.set 0 _).set 1 _).alloc _).cell 1)) rfl ⟨by rw[HW.out],?_⟩
    exact((hQ2.setCell (p:=⟨w.heap.size,0,none⟩) (Nat.le_refl _) _).setCell (p:=⟨w.heap.size,1,none⟩) (Nat.le_refl _) _).alloc (by simp;omega) _
   ·have HW:Hid (V=.tuple #[.agg #[.string ⟨#[]⟩,.string ⟨#[]⟩],.int .i64 4]):=LH (by rw[← HV.out,hr,if_neg (by decide)])
    have h1':((zo N).length:Int)≤300:=by omega
    have h2':(300:Int)<(D.length:Int):=by omega
    clear hr
    go_wp2_with (go_at_call 155;refine(zP N _).mono ?_;rintro e w3 ⟨rfl,rfl⟩)
    refine bodyPost_ret (v:=.tuple #[.agg #[.string ⟨#[]⟩,.string ⟨#[]⟩],.int .i64 4])
     (zd0 _ _ w.heap.size _ _ _ rfl rfl ((((B1'.set 0 _).set 1 _).alloc _).cell 0) ((((B1'.set 0 _).set 1 _).alloc _).cell 1)) rfl ⟨by rw[HW.out],?_⟩
    exact((hQ2.setCell (p:=⟨w.heap.size,0,none⟩) (Nat.le_refl _) _).setCell (p:=⟨w.heap.size,1,none⟩) (Nat.le_refl _) _).alloc (by simp;omega) _
   ·have hr1:zcg (Lib.itoa z)=zcg (Lib.itoa z):=rfl
    have h1':((zo (Lib.itoa z)).length:Int)≤300:=by omega
    have h2':((Lib.itoa (k:Int)).length:Int)≤300:=by omega
    have HG1:=LH (fun w hw=>HG.out z k hz hk2 w hw)
    rw[Int.natAbs_natCast]at HG1
    by_cases hk1:k=1
    ·have HW:Hid (V=.tuple #[.agg #[.string ⟨(Lib.itoa z).toArray⟩,.string ⟨(Lib.itoa (k:Int)).toArray⟩],.int .i64 0]):=LH (by rw[← HV.out,show zcg a=0 by rw[hr];exact if_pos (by rw[hk1];exact Nat.gcd_one_right _),if_pos rfl])
     have hd1:(Lib.itoa (k:Int) == [49])=true:=by rw[hk1,show ((1:Nat):Int)=1 from rfl,zai];rfl
     clear hr hr1 hk1 HG1
     go_wp2_with (go_at_call 155;refine(zP _ _).mono ?_;rintro e w3 ⟨rfl,rfl⟩)
     refine bodyPost_ret (v:=.tuple #[.agg #[.string ⟨(Lib.itoa z).toArray⟩,.string ⟨(Lib.itoa (k:Int)).toArray⟩],.int .i64 0])
      (zd0 _ _ w.heap.size _ _ _ rfl rfl ((((B1'.set 0 _).set 1 _).alloc _).cell 0) ((((B1'.set 0 _).set 1 _).alloc _).cell 1)) rfl ⟨by rw[HW.out],?_⟩
     exact((hQ2.setCell (p:=⟨w.heap.size,0,none⟩) (Nat.le_refl _) _).setCell (p:=⟨w.heap.size,1,none⟩) (Nat.le_refl _) _).alloc (by simp;omega) _
    ·have hd1:(Lib.itoa (k:Int) == [49])=false:=by
      rw[beq_eq_false_iff_ne,← zai];exact fun e=>hk1 (by have:=zak e;omega)
     by_cases hg:Nat.gcd z.natAbs k=1
     ·have HW:Hid (V=.tuple #[.agg #[.string ⟨(Lib.itoa z).toArray⟩,.string ⟨(Lib.itoa (k:Int)).toArray⟩],.int .i64 0]):=LH (by rw[← HV.out,show zcg a=0 by rw[hr];exact if_pos hg,if_pos rfl])
      rw[hg,show ((1:Nat):Int)=1 from rfl,zai]at HG1
      clear hr hr1 hk1 hg
      go_wp2_with (first | (go_at_call 155;refine(zP _ _).mono ?_;rintro e w3 ⟨rfl,rfl⟩) | fail)
      refine cx (HG1.out _ (hE.q (hQ2.alloc (by omega) _))) fun w4 hq4=>?_
      have hQ4:Q w w4:=Q.trans (hQ2.alloc (by omega) _) hq4
      have C1:=(B1'.alloc (.cells #[.int .i64 0,.int .i64 0] 126)).keep hq4 (by simp;omega)
      have C2:=(B2.alloc (.cells #[.int .i64 0,.int .i64 0] 126)).keep hq4 (by simp;omega)
      have x0:=C1.cell 0
      have x1:=C1.cell 1
      have y0:=C1.frozen 0
      have y1:=C1.frozen 1
      have x2:=C2.cell 0
      have x3:=C2.cell 1
      simp only[zs4,zs5]at x0 x1 x2 x3
      clear HG1 c0 f0 f1 d0
      go_wp2_with fail
      refine bodyPost_ret (v:=.tuple #[.agg #[.string ⟨(Lib.itoa z).toArray⟩,.string ⟨(Lib.itoa (k:Int)).toArray⟩],.int .i64 0])
       (zd0 _ _ w.heap.size _ _ _ rfl rfl (((C1.set 0 _).set 1 _).cell 0) (((C1.set 0 _).set 1 _).cell 1)) rfl ⟨by rw[HW.out],?_⟩
      exact(hQ4.setCell (p:=⟨w.heap.size,0,none⟩) (Nat.le_refl _) _).setCell (p:=⟨w.heap.size,1,none⟩) (Nat.le_refl _) _
     ·have HW:Hid (V=.tuple #[.agg #[.string ⟨#[]⟩,.string ⟨#[]⟩],.int .i64 11]):=LH (by rw[← HV.out,show zcg a=11 by rw[hr];exact if_neg hg,if_neg (by decide)])
      have hg1:(Lib.itoa (Nat.gcd z.natAbs k:Int) == [49])=false:=by
       rw[beq_eq_false_iff_ne,← zai];exact fun e=>hg (by have:=zak e;omega)
      have hg1':=zaB hg1
      clear hr hr1 hk1 hg
      go_wp2_with (first | (go_at_call 155;refine(zP _ _).mono ?_;rintro e w3 ⟨rfl,rfl⟩) | fail)
      refine cx (HG1.out _ (hE.q (hQ2.alloc (by omega) _))) fun w4 hq4=>?_
      have hQ4:Q w w4:=Q.trans (hQ2.alloc (by omega) _) hq4
      have C1:=(B1'.alloc (.cells #[.int .i64 0,.int .i64 0] 126)).keep hq4 (by simp;omega)
      have C2:=(B2.alloc (.cells #[.int .i64 0,.int .i64 0] 126)).keep hq4 (by simp;omega)
      have x0:=C1.cell 0
      have x1:=C1.cell 1
      have y0:=C1.frozen 0
      have y1:=C1.frozen 1
      have x2:=C2.cell 0
      have x3:=C2.cell 1
      simp only[zs4,zs5]at x0 x1 x2 x3
      clear HG1 c0 f0 f1 d0
      go_wp2_with fail
      refine bodyPost_ret (v:=.tuple #[.agg #[.string ⟨#[]⟩,.string ⟨#[]⟩],.int .i64 11])
       (zd0 _ _ w.heap.size _ _ _ rfl rfl (((C1.set 0 _).set 1 _).cell 0) (((C1.set 0 _).set 1 _).cell 1)) rfl ⟨by rw[HW.out],?_⟩
      exact(hQ4.setCell (p:=⟨w.heap.size,0,none⟩) (Nat.le_refl _) _).setCell (p:=⟨w.heap.size,1,none⟩) (Nat.le_refl _) _
theorem zoB(q:Rat)(h:zam q=false):zio (ze q)=.tuple #[.agg #[.string ⟨(Lib.itoa q.num).toArray⟩,.string ⟨(Lib.itoa (q.den:Int)).toArray⟩],.int .i64 0]:=by
 unfold zio;rw[show zcg (ze q)=0 by rw[zb5,h];rfl,if_pos rfl,zbY,zed]
theorem zpV{a:Str}(h:zcg a≠0):zio a=.tuple #[.agg #[.string ⟨#[]⟩,.string ⟨#[]⟩],.int .i64 (zcg a)]:=by
 unfold zio;rw[if_neg h]
theorem zaA{q:Rat}(h:zam q=false):(ze q).length≤1000:=by
 unfold zam at h
 rw[Bool.or_eq_false_iff]at h
 have h1:=zU q.num h.1
 have h2:=zU (q.den:Int) h.2
 unfold ze;split
 ·omega
 ·rw[zB,List.length_append,List.length_cons];omega
theorem zaf(q:Rat)(h:zam q=false)(w:World)(hE:Env w) :
  CR 81 #[.string ⟨(ze q).toArray⟩] w (.tuple #[.agg #[.string ⟨(Lib.itoa q.num).toArray⟩,.string ⟨(Lib.itoa (q.den:Int)).toArray⟩],.int .i64 0]):=by
 rw[← zoB q h]
 exact zf2 _ (by have:=zaA h;omega) w hE
theorem zdu(a:Str)(hl:a.length≤1000000000)(w:World)(hE:Env w) :
  CR 95 #[.string ⟨a.toArray⟩] w (.int .i64 (zcg a)):=by
 have HR:=LH (zf2 a hl w hE)
 by_cases h:zcg a=0
 ·have hv:zio a=.tuple #[.agg #[.string ⟨(zq a).toArray⟩,.string ⟨(zal a).toArray⟩],.int .i64 0]:=by unfold zio;rw[if_pos h]
  rw[hv]at HR
  rw[h]
  clear hv h
  go_enter Tryz.func95,Tryz.ntmps95
  go_wp2_with fail
  refine HR.out.mono ?_
  rintro e w1⟨rfl,hq1⟩
  go_wp2
  go_ret
  exact⟨rfl,hq1.alloc hq1.size _⟩
 ·rw[zpV h]at HR
  clear h
  go_enter Tryz.func95,Tryz.ntmps95
  go_wp2_with fail
  refine HR.out.mono ?_
  rintro e w1⟨rfl,hq1⟩
  go_wp2
  go_ret
  exact⟨rfl,hq1.alloc hq1.size _⟩
theorem zbJ(q:Rat)(h:zam q=false)(w:World)(hE:Env w) :
  CR 157 #[.string ⟨(ze q).toArray⟩] w (.tuple #[.string ⟨(Lib.itoa q.num).toArray⟩,.string ⟨(Lib.itoa (q.den:Int)).toArray⟩,.int .i64 0]):=by
 go_enter Tryz.func157,Tryz.ntmps157
 go_wp2_with fail
 refine cx (zaf q h _ hE) fun w1 hq1=>?_
 go_wp2
 go_quiet (fail)
 go_wp2
 go_ret3
 exact⟨rfl,Below.drewN (hq1.alloc hq1.size _) _⟩
theorem zcj{x y:Int}(h:lim y=false)(hxy:x.natAbs≤y.natAbs):lim x=false:=by
 rw[za1]at h ⊢;omega
theorem zhS{n:Int}(h:lim n=false){g:Nat}:lim (n.fdiv (g:Int))=false:=by
 refine zcj h ?_
 rw[Int.fdiv_eq_ediv_of_nonneg _ (by omega)]
 rcases Nat.eq_zero_or_pos g with rfl | hg
 ·simp
 ·rcases Int.le_total 0 n with h0 | h0
  ·have h1:0≤n / (g:Int):=Int.ediv_nonneg h0 (by omega)
   have h2:n / (g:Int)≤n:=Int.ediv_le_self _ h0
   omega
  ·have h1:=Int.ediv_mul_le n (show (g:Int)≠0 by omega)
   have h2:n≤n / (g:Int):=by
    refine(Int.le_ediv_iff_mul_le (by omega)).2 ?_
    have:n*(g:Int)≤n*1:=Int.mul_le_mul_of_nonpos_left h0 (by omega)
    omega
   have h3:n / (g:Int)≤0:=by
    by_cases h:n / (g:Int)≤0
    ·exact h
    ·have:1*(g:Int)≤n / (g:Int)*(g:Int):=Int.mul_le_mul_of_nonneg_right (by omega) (by omega)
     omega
   omega
theorem zfu(n:Int)(k:Nat)(hk:0<k)(hn:lim n=false)(hd:lim (k:Int)=false)(w:World)(hE:Env w) :
  CR 78 #[.string ⟨(Lib.itoa n).toArray⟩,.string ⟨(Lib.itoa (k:Int)).toArray⟩] w (.tuple #[.string ⟨(ze (Rat.divInt n k)).toArray⟩,.int .i64 0]):=by
 have hg1:0<Nat.gcd n.natAbs k:=Nat.gcd_pos_of_pos_right _ (by omega)
 have hg2:Nat.gcd n.natAbs k≤k:=Nat.le_of_dvd (by omega) (Nat.gcd_dvd_right ..)
 have HR:=LH (zcO n k hk)
 generalize ze (Rat.divInt n k)=r at *
 have HG:=LH (fun w hw=>zfK n (k:Int) hn hd w hw)
 rw[Int.natAbs_natCast]at HG
 have hmin:decide ((Lib.itoa (k:Int)).head? = some 45)=false:=by
  rw[← zB,decide_eq_false_iff_not];exact zF k
 have lg:lim ((Nat.gcd n.natAbs k:Nat):Int)=false:=zcj hd (by omega)
 generalize hgg:Nat.gcd n.natAbs k=g at *
 clear hgg
 have lm1:=zhS hn (g:=g)
 have lm2:=zhS hd (g:=g)
 have lq1:=zU _ lm1
 have lq2:=zU _ lm2
 have lq3:=zU _ hn
 have lq4:=zU _ hd
 have hg0:(g:Int)≠0:=by omega
 have HD:=LH (fun(z:Int) hz w hw=>zdy z (g:Int) hz lg hg0 w hw)
 by_cases h1:g=1
 ·have hb:(Lib.itoa (g:Int) == [49])=true:=by rw[h1];simp[Lib.itoa,Lib.decDigits]
  have hb':=zbR hb
  have e1:n.fdiv (g:Int)=n:=by rw[h1];simp
  have e2:(k:Int).fdiv (g:Int)=k:=by rw[h1];simp
  rw[e1,e2]at HR
  clear e1 e2
  by_cases h2:(k:Int)=1
  ·have hc:(Lib.itoa (k:Int) == [49])=true:=by rw[h2];simp[Lib.itoa,Lib.decDigits]
   have H2:=LH h2
   clear h2 h1
   go_enter Tryz.func78,Tryz.ntmps78
   go_wp2_with (first | (go_at_call 96;refine(zW _ _).mono ?_;rintro e w1 ⟨rfl,rfl⟩)|(go_at_call 149;refine(HG.out _ hE).mono ?_;rintro e w1 ⟨rfl,hq1⟩))
   go_ret2
   exact⟨by rw[HR.out,if_pos H2.out];rfl,hq1⟩
  ·have hc:(Lib.itoa (k:Int) == [49])=false:=by
    rw[beq_eq_false_iff_ne,← zai];exact fun e=>h2 (zak e)
   have H2:=LH h2
   clear h2 h1
   go_enter Tryz.func78,Tryz.ntmps78
   go_wp2_with (first | (go_at_call 96;refine(zW _ _).mono ?_;rintro e w1 ⟨rfl,rfl⟩)|(go_at_call 149;refine(HG.out _ hE).mono ?_;rintro e w1 ⟨rfl,hq1⟩))
   go_ret2
   exact⟨by rw[HR.out,if_neg H2.out];first | rfl | (simp;done),hq1⟩
 ·have hb:(Lib.itoa (g:Int) == [49])=false:=by
   rw[beq_eq_false_iff_ne,← zai];exact fun e=>h1 (by have:=zak e;omega)
  have hb':=zaB hb
  by_cases h2:(k:Int).fdiv (g:Int)=1
  ·have hc:(Lib.itoa ((k:Int).fdiv (g:Int)) == [49])=true:=by rw[h2];simp[Lib.itoa,Lib.decDigits]
   have H2:=LH h2
   clear h2 h1
   go_enter Tryz.func78,Tryz.ntmps78
   go_wp2_with (first | (go_at_call 96;refine(zW _ _).mono ?_;rintro e w1 ⟨rfl,rfl⟩)|(go_at_call 149;refine(HG.out _ hE).mono ?_;rintro e w1 ⟨rfl,hq1⟩) | fail)
   refine cx (HD.out n hn _ (hE.q hq1)) fun w2 hq2=>?_
   have hQ2:Q w w2:=Q.trans hq1 hq2
   go_wp2_with fail
   refine cx (HD.out (k:Int) hd _ (hE.q hQ2)) fun w3 hq3=>?_
   go_wp2
   go_ret2
   exact⟨by rw[HR.out,if_pos H2.out];rfl,Q.trans hQ2 hq3⟩
  ·have hc:(Lib.itoa ((k:Int).fdiv (g:Int)) == [49])=false:=by
    rw[beq_eq_false_iff_ne,← zai];exact fun e=>h2 (zak e)
   have H2:=LH h2
   clear h2 h1
   go_enter Tryz.func78,Tryz.ntmps78
   go_wp2_with (first | (go_at_call 96;refine(zW _ _).mono ?_;rintro e w1 ⟨rfl,rfl⟩)|(go_at_call 149;refine(HG.out _ hE).mono ?_;rintro e w1 ⟨rfl,hq1⟩) | fail)
   refine cx (HD.out n hn _ (hE.q hq1)) fun w2 hq2=>?_
   have hQ2:Q w w2:=Q.trans hq1 hq2
   go_wp2_with fail
   refine cx (HD.out (k:Int) hd _ (hE.q hQ2)) fun w3 hq3=>?_
   go_wp2
   go_ret2
   exact⟨by rw[HR.out,if_neg H2.out];first | rfl | (simp;done),Q.trans hQ2 hq3⟩
theorem zdJ(z:Int)(hz:lim z=false)(w:World) :
  Calls Tryz.prog 148 #[.string ⟨(Lib.itoa z).toArray⟩] w fun e w'=>e=.returned (.string ⟨(Lib.itoa (-z)).toArray⟩)∧w=w':=by
 have hl:=zU z hz
 by_cases h0:z=0
 ·subst h0
  rw[show (-0:Int)=0 from rfl,zae]
  go_enter Tryz.func148,Tryz.ntmps148
  go_wp2_with fail
  go_ret
  exact⟨rfl,rfl⟩
 ·have hne:(Lib.itoa z == [48])=false:=by
   rw[beq_eq_false_iff_ne,← zae];exact fun e=>h0 (zak e)
  have hu:zo (Lib.itoa z)=decDigits z.natAbs:=zav z
  have HU:=LH hu
  by_cases hs:z<0
  ·have hm:decide ((Lib.itoa z).head? = some 45)=true:=by rw[itoa_neg hs];rfl
   have HR:Hid (Lib.itoa (-z)=decDigits z.natAbs):=LH (by rw[itoa_nonneg (by omega)];congr 1;omega)
   clear hu
   go_enter Tryz.func148,Tryz.ntmps148
   go_wp2_with (go_at_call 199;refine(zdj _ _).mono ?_;rintro e w1 ⟨rfl,rfl⟩)
   go_ret
   exact⟨by rw[HR.out,HU.out];rfl,rfl⟩
  ·have hm:decide ((Lib.itoa z).head? = some 45)=false:=by
    rw[itoa_nonneg (by omega),decide_eq_false_iff_not];exact zF _
   have HR:Hid (Lib.itoa (-z)=45::Lib.itoa z):=LH (by rw[itoa_neg (by omega),itoa_nonneg (by omega)];congr 2;omega)
   clear hu
   go_enter Tryz.func148,Tryz.ntmps148
   go_wp2_with (go_at_call 199;refine(zdj _ _).mono ?_;rintro e w1 ⟨rfl,rfl⟩)
   go_ret
   exact⟨by rw[HR.out];first | rfl | (simp;done),rfl⟩
theorem zkR{z:Int}(h:lim z=false):lim (-z)=false:=zcj h (by omega)
theorem zfv(n:Int)(k:Nat)(hk:0<k)(hn:lim n=false)(hd:lim (k:Int)=false)(w:World)(hE:Env w) :
  CR 78 #[.string ⟨(Lib.itoa (-n)).toArray⟩,.string ⟨(Lib.itoa (-(k:Int))).toArray⟩] w (.tuple #[.string ⟨(ze (Rat.divInt n k)).toArray⟩,.int .i64 0]):=by
 have hg1:0<Nat.gcd n.natAbs k:=Nat.gcd_pos_of_pos_right _ (by omega)
 have hg2:Nat.gcd n.natAbs k≤k:=Nat.le_of_dvd (by omega) (Nat.gcd_dvd_right ..)
 have HR:=LH (zcO n k hk)
 generalize ze (Rat.divInt n k)=r at *
 have HG:=LH (fun w hw=>zfK n (k:Int) hn hd w hw)
 rw[Int.natAbs_natCast]at HG
 have hmin:decide ((Lib.itoa (-(k:Int))).head? = some 45)=true:=by rw[itoa_neg (by omega)];rfl
 have HO1:=LH (fun w=>zdJ (-n) (zkR hn) w)
 have HO2:=LH (fun w=>zdJ (-(k:Int)) (zkR hd) w)
 rw[Int.neg_neg]at HO1 HO2
 generalize Lib.itoa (-n)=A1 at *
 generalize Lib.itoa (-(k:Int))=A2 at *
 have lg:lim ((Nat.gcd n.natAbs k:Nat):Int)=false:=zcj hd (by omega)
 generalize hgg:Nat.gcd n.natAbs k=g at *
 clear hgg
 have lm1:=zhS hn (g:=g)
 have lm2:=zhS hd (g:=g)
 have lq1:=zU _ lm1
 have lq2:=zU _ lm2
 have lq3:=zU _ hn
 have lq4:=zU _ hd
 have hg0:(g:Int)≠0:=by omega
 have HD:=LH (fun(z:Int) hz w hw=>zdy z (g:Int) hz lg hg0 w hw)
 by_cases h1:g=1
 ·have hb:(Lib.itoa (g:Int) == [49])=true:=by rw[h1];simp[Lib.itoa,Lib.decDigits]
  have hb':=zbR hb
  have e1:n.fdiv (g:Int)=n:=by rw[h1];simp
  have e2:(k:Int).fdiv (g:Int)=k:=by rw[h1];simp
  rw[e1,e2]at HR
  clear e1 e2
  by_cases h2:(k:Int)=1
  ·have hc:(Lib.itoa (k:Int) == [49])=true:=by rw[h2];simp[Lib.itoa,Lib.decDigits]
   have H2:=LH h2
   clear h2 h1
   go_enter Tryz.func78,Tryz.ntmps78
   go_wp2_with (first | (go_at_call 96;refine(zW _ _).mono ?_;rintro e w1 ⟨rfl,rfl⟩)|(go_at_call 148;(first | with_reducible refine(HO1.out _).mono ?_ | with_reducible refine(HO2.out _).mono ?_);rintro e w1 ⟨rfl,rfl⟩)|(go_at_call 149;refine(HG.out _ hE).mono ?_;rintro e w1 ⟨rfl,hq1⟩))
   go_ret2
   exact⟨by rw[HR.out,if_pos H2.out];rfl,hq1⟩
  ·have hc:(Lib.itoa (k:Int) == [49])=false:=by
    rw[beq_eq_false_iff_ne,← zai];exact fun e=>h2 (zak e)
   have H2:=LH h2
   clear h2 h1
   go_enter Tryz.func78,Tryz.ntmps78
   go_wp2_with (first | (go_at_call 96;refine(zW _ _).mono ?_;rintro e w1 ⟨rfl,rfl⟩)|(go_at_call 148;(first | with_reducible refine(HO1.out _).mono ?_ | with_reducible refine(HO2.out _).mono ?_);rintro e w1 ⟨rfl,rfl⟩)|(go_at_call 149;refine(HG.out _ hE).mono ?_;rintro e w1 ⟨rfl,hq1⟩))
   go_ret2
   exact⟨by rw[HR.out,if_neg H2.out];first | rfl | (simp;done),hq1⟩
 ·have hb:(Lib.itoa (g:Int) == [49])=false:=by
   rw[beq_eq_false_iff_ne,← zai];exact fun e=>h1 (by have:=zak e;omega)
  have hb':=zaB hb
  by_cases h2:(k:Int).fdiv (g:Int)=1
  ·have hc:(Lib.itoa ((k:Int).fdiv (g:Int)) == [49])=true:=by rw[h2];simp[Lib.itoa,Lib.decDigits]
   have H2:=LH h2
   clear h2 h1
   go_enter Tryz.func78,Tryz.ntmps78
   go_wp2_with (first | (go_at_call 96;refine(zW _ _).mono ?_;rintro e w1 ⟨rfl,rfl⟩)|(go_at_call 148;(first | with_reducible refine(HO1.out _).mono ?_ | with_reducible refine(HO2.out _).mono ?_);rintro e w1 ⟨rfl,rfl⟩)|(go_at_call 149;refine(HG.out _ hE).mono ?_;rintro e w1 ⟨rfl,hq1⟩) | fail)
   refine cx (HD.out n hn _ (hE.q hq1)) fun w2 hq2=>?_
   have hQ2:Q w w2:=Q.trans hq1 hq2
   go_wp2_with fail
   refine cx (HD.out (k:Int) hd _ (hE.q hQ2)) fun w3 hq3=>?_
   go_wp2
   go_ret2
   exact⟨by rw[HR.out,if_pos H2.out];rfl,Q.trans hQ2 hq3⟩
  ·have hc:(Lib.itoa ((k:Int).fdiv (g:Int)) == [49])=false:=by
    rw[beq_eq_false_iff_ne,← zai];exact fun e=>h2 (zak e)
   have H2:=LH h2
   clear h2 h1
   go_enter Tryz.func78,Tryz.ntmps78
   go_wp2_with (first | (go_at_call 96;refine(zW _ _).mono ?_;rintro e w1 ⟨rfl,rfl⟩)|(go_at_call 148;(first | with_reducible refine(HO1.out _).mono ?_ | with_reducible refine(HO2.out _).mono ?_);rintro e w1 ⟨rfl,rfl⟩)|(go_at_call 149;refine(HG.out _ hE).mono ?_;rintro e w1 ⟨rfl,hq1⟩) | fail)
   refine cx (HD.out n hn _ (hE.q hq1)) fun w2 hq2=>?_
   have hQ2:Q w w2:=Q.trans hq1 hq2
   go_wp2_with fail
   refine cx (HD.out (k:Int) hd _ (hE.q hQ2)) fun w3 hq3=>?_
   go_wp2
   go_ret2
   exact⟨by rw[HR.out,if_neg H2.out];first | rfl | (simp;done),Q.trans hQ2 hq3⟩
theorem zb6(n k:Int)(hk:k≠0)(hn:lim n=false)(hd:lim k=false)(w:World)(hE:Env w) :
  CR 78 #[.string ⟨(Lib.itoa n).toArray⟩,.string ⟨(Lib.itoa k).toArray⟩] w (.tuple #[.string ⟨(ze (Rat.divInt n k)).toArray⟩,.int .i64 0]):=by
 rcases Int.lt_or_gt_of_ne hk with h | h
 ·obtain⟨m,hm⟩:=Int.eq_ofNat_of_zero_le (show 0≤-k by omega)
  have h1:=zfv (-n) m (by omega) (zkR hn) (by rw[← hm];exact zkR hd) w hE
  rw[Int.neg_neg,← hm,Int.neg_neg,Rat.neg_divInt_neg]at h1
  exact h1
 ·obtain⟨m,rfl⟩:=Int.eq_ofNat_of_zero_le (show 0≤k by omega)
  exact zfu n m (by omega) hn hd w hE
end
section
open Go.RowKit Kp
theorem zei{z:Int}(h:lim z=false):rsV z=.tuple #[.string ⟨(Lib.itoa z).toArray⟩,.int .i64 0]:=by unfold rsV;rw[h];rfl
theorem zgM{z:Int}(h:lim z=true):rsV z=.tuple #[.string ⟨#[]⟩,.int .i64 4]:=by unfold rsV;rw[h];rfl
theorem zx{q:Rat}(h:zam q=false):lim q.num=false∧lim (q.den:Int)=false:=by
 unfold zam at h;rwa[Bool.or_eq_false_iff]at h
theorem zbp(a b c d:Int)(ha:lim a=false)(hb:lim b=false)(hc:lim c=false)(hd:lim d=false)(h1:lim (a*d)=false)(h2:lim (c*b)=false)(w:World)(hE:Env w) :
  CR 82 #[.agg #[.string ⟨(Lib.itoa a).toArray⟩,.string ⟨(Lib.itoa b).toArray⟩],.agg #[.string ⟨(Lib.itoa c).toArray⟩,.string ⟨(Lib.itoa d).toArray⟩]] w (.tuple #[.string ⟨(Lib.itoa (a*d)).toArray⟩,.string ⟨(Lib.itoa (c*b)).toArray⟩,.int .i64 0]):=by
 have M1:=LH (fun w hw=>zaO a d ha hd w hw)
 have M2:=LH (fun w hw=>zaO c b hc hb w hw)
 rw[zei h1]at M1
 rw[zei h2]at M2
 clear ha hb hc hd h1 h2
 generalize Lib.itoa (a*d)=X at *
 generalize Lib.itoa (c*b)=Y at *
 generalize Lib.itoa a=A at *
 generalize Lib.itoa b=B at *
 generalize Lib.itoa c=C at *
 generalize Lib.itoa d=D at *
 go_enter Tryz.func82,Tryz.ntmps82
 go_wp2_with fail
 refine cx (M1.out _ (hE.q bt)) fun w1 hq1=>?_
 have B1:=((Blk.new w [.string ⟨A.toArray⟩,.string ⟨B.toArray⟩] 133).alloc (.cells #[.string ⟨C.toArray⟩,.string ⟨D.toArray⟩] 133)).keep hq1 (by simp;omega)
 have B2:=(Blk.new (w.alloc (.cells #[.string ⟨A.toArray⟩,.string ⟨B.toArray⟩] 133)) [.string ⟨C.toArray⟩,.string ⟨D.toArray⟩] 133).keep hq1 (by simp)
 rw[World.size_alloc]at B2
 have hQ1:Q w w1:=Q.trans (show Below w.heap.size w _ from bt) hq1
 have c0:=B1.cell
 have d0:=B2.cell
 go_wp2_with fail
 refine cx (M2.out _ (hE.q hQ1)) fun w2 hq2=>?_
 have hQ2:=Q.trans hQ1 hq2
 clear M1 M2 c0 d0
 go_wp2
 go_ret3
 exact⟨rfl,hQ2⟩
theorem zku(a b c d:Int)(ha:lim a=false)(hb:lim b=false)(hc:lim c=false)(hd:lim d=false)(hn:b*d≠0)(h1:lim (a*c)=false)(h2:lim (b*d)=false)(w:World)(hE:Env w) :
  CR 76 #[.agg #[.string ⟨(Lib.itoa a).toArray⟩,.string ⟨(Lib.itoa b).toArray⟩],.agg #[.string ⟨(Lib.itoa c).toArray⟩,.string ⟨(Lib.itoa d).toArray⟩]] w (.tuple #[.string ⟨(ze (Rat.divInt (a*c) (b*d))).toArray⟩,.int .i64 0]):=by
 have M1:=LH (fun w hw=>zaO a c ha hc w hw)
 have M2:=LH (fun w hw=>zaO b d hb hd w hw)
 have M3:=LH (fun w hw=>zb6 (a*c) (b*d) hn h1 h2 w hw)
 rw[zei h1]at M1
 rw[zei h2]at M2
 clear ha hb hc hd h1 h2 hn
 generalize ze (Rat.divInt (a*c) (b*d))=R at *
 generalize Lib.itoa (a*c)=X at *
 generalize Lib.itoa (b*d)=Y at *
 generalize Lib.itoa a=A at *
 generalize Lib.itoa b=B at *
 generalize Lib.itoa c=C at *
 generalize Lib.itoa d=D at *
 go_enter Tryz.func76,Tryz.ntmps76
 go_wp2_with fail
 refine cx (M1.out _ (hE.q bt)) fun w1 hq1=>?_
 have B1:=((Blk.new w [.string ⟨A.toArray⟩,.string ⟨B.toArray⟩] 133).alloc (.cells #[.string ⟨C.toArray⟩,.string ⟨D.toArray⟩] 133)).keep hq1 (by simp;omega)
 have B2:=(Blk.new (w.alloc (.cells #[.string ⟨A.toArray⟩,.string ⟨B.toArray⟩] 133)) [.string ⟨C.toArray⟩,.string ⟨D.toArray⟩] 133).keep hq1 (by simp)
 rw[World.size_alloc]at B2
 have hQ1:Q w w1:=Q.trans (show Below w.heap.size w _ from bt) hq1
 have c0:=B1.cell
 have d0:=B2.cell
 go_wp2_with fail
 refine cx (M2.out _ (hE.q hQ1)) fun w2 hq2=>?_
 have hQ2:=Q.trans hQ1 hq2
 clear M1 M2 c0 d0
 go_wp2_with fail
 refine cx (M3.out _ (hE.q hQ2)) fun w3 hq3=>?_
 have hQ3:=Q.trans hQ2 hq3
 go_wp2
 go_ret2
 exact⟨rfl,hQ3⟩
theorem zkv(a b c d:Int)(ha:lim a=false)(hb:lim b=false)(hc:lim c=false)(hd:lim d=false)(hc0:c≠0)(hn:c*b≠0)(h1:lim (a*d)=false)(h2:lim (c*b)=false)(w:World)(hE:Env w) :
  CR 94 #[.agg #[.string ⟨(Lib.itoa a).toArray⟩,.string ⟨(Lib.itoa b).toArray⟩],.agg #[.string ⟨(Lib.itoa c).toArray⟩,.string ⟨(Lib.itoa d).toArray⟩]] w (.tuple #[.string ⟨(ze (Rat.divInt (a*d) (c*b))).toArray⟩,.int .i64 0]):=by
 have M1:=LH (fun w hw=>zbp a b c d ha hb hc hd h1 h2 w hw)
 have M3:=LH (fun w hw=>zb6 (a*d) (c*b) hn h1 h2 w hw)
 have hz:(Lib.itoa c == [48])=false:=by
  rw[beq_eq_false_iff_ne,← zae];exact fun e=>hc0 (zak e)
 clear ha hb hc hd h1 h2 hn hc0
 generalize ze (Rat.divInt (a*d) (c*b))=R at *
 generalize Lib.itoa (a*d)=X at *
 generalize Lib.itoa (c*b)=Y at *
 generalize Lib.itoa a=A at *
 generalize Lib.itoa b=B at *
 generalize Lib.itoa c=C at *
 generalize Lib.itoa d=D at *
 go_enter Tryz.func94,Tryz.ntmps94
 go_wp2_with fail
 refine cx (M1.out _ (hE.q bt)) fun w1 hq1=>?_
 have hQ1:Q w w1:=Q.trans (show Below w.heap.size w _ from bt) hq1
 go_wp2_with fail
 refine cx (M3.out _ (hE.q hQ1)) fun w3 hq3=>?_
 have hQ3:=Q.trans hQ1 hq3
 go_wp2
 go_ret2
 exact⟨rfl,hQ3⟩
theorem zeD(a b c d:Int)(ha:lim a=false)(hb:lim b=false)(hc:lim c=false)(hd:lim d=false)(hn:b*d≠0)(h1:lim (a*d)=false)(h2:lim (c*b)=false)(h3:lim (a*d+c*b)=false)(h4:lim (b*d)=false)(w:World)(hE:Env w)
  (p:Nat)(_hp:p<w.heap.size)(hpc:w.cell? ⟨p,0,none⟩=some (.func (.func 276) #[] #[])) :
  CR 140 #[.agg #[.string ⟨(Lib.itoa a).toArray⟩,.string ⟨(Lib.itoa b).toArray⟩],.agg #[.string ⟨(Lib.itoa c).toArray⟩,.string ⟨(Lib.itoa d).toArray⟩],.pointer (some ⟨p,0,none⟩)] w (.tuple #[.string ⟨(ze (Rat.divInt (a*d+c*b) (b*d))).toArray⟩,.int .i64 0]):=by
 have M1:=LH (fun w hw=>zbp a b c d ha hb hc hd h1 h2 w hw)
 have M2:=LH (fun w hw=>ziS (a*d) (c*b) h1 h2 w hw)
 have M3:=LH (fun w hw=>zaO b d hb hd w hw)
 have M4:=LH (fun w hw=>zb6 (a*d+c*b) (b*d) hn h3 h4 w hw)
 rw[zei h3]at M2
 rw[zei h4]at M3
 clear ha hb hc hd h1 h2 h3 h4 hn
 generalize ze (Rat.divInt (a*d+c*b) (b*d))=R at *
 generalize Lib.itoa (a*d+c*b)=Z at *
 generalize Lib.itoa (a*d)=X at *
 generalize Lib.itoa (c*b)=Y at *
 generalize Lib.itoa (b*d)=U at *
 generalize Lib.itoa a=A at *
 generalize Lib.itoa b=B at *
 generalize Lib.itoa c=C at *
 generalize Lib.itoa d=D at *
 go_enter Tryz.func140,Tryz.ntmps140
 go_wp2_with fail
 refine cx (M1.out _ (hE.q bt)) fun w1 hq1=>?_
 have B1:=((Blk.new w [.string ⟨A.toArray⟩,.string ⟨B.toArray⟩] 133).alloc (.cells #[.string ⟨C.toArray⟩,.string ⟨D.toArray⟩] 133)).keep hq1 (by simp;omega)
 have B2:=(Blk.new (w.alloc (.cells #[.string ⟨A.toArray⟩,.string ⟨B.toArray⟩] 133)) [.string ⟨C.toArray⟩,.string ⟨D.toArray⟩] 133).keep hq1 (by simp)
 rw[World.size_alloc]at B2
 have hQ1:Q w w1:=Q.trans (show Below w.heap.size w _ from bt) hq1
 have pc1:=za hQ1 hpc
 go_wp2_with fail
 refine cx (M2.out _ (hE.q hQ1)) fun w2 hq2=>?_
 have hQ2:=Q.trans hQ1 hq2
 have C1:=B1.keep hq2 B1.lt
 have C2:=B2.keep hq2 B2.lt
 have c0:=C1.cell
 have d0:=C2.cell
 clear pc1 M1 M2
 go_wp2_with fail
 refine cx (M3.out _ (hE.q hQ2)) fun w3 hq3=>?_
 have hQ3:=Q.trans hQ2 hq3
 clear c0 d0 M3
 go_wp2_with fail
 refine cx (M4.out _ (hE.q hQ3)) fun w4 hq4=>?_
 have hQ4:=Q.trans hQ3 hq4
 go_wp2
 go_ret2
 exact⟨rfl,hQ4⟩
theorem zeC(a b c d:Int)(ha:lim a=false)(hb:lim b=false)(hc:lim c=false)(hd:lim d=false)(hn:b*d≠0)(h1:lim (a*d)=false)(h2:lim (c*b)=false)(h3:lim (a*d - c*b)=false)(h4:lim (b*d)=false)(w:World)(hE:Env w)
  (p:Nat)(_hp:p<w.heap.size)(hpc:w.cell? ⟨p,0,none⟩=some (.func (.func 74) #[] #[])) :
  CR 140 #[.agg #[.string ⟨(Lib.itoa a).toArray⟩,.string ⟨(Lib.itoa b).toArray⟩],.agg #[.string ⟨(Lib.itoa c).toArray⟩,.string ⟨(Lib.itoa d).toArray⟩],.pointer (some ⟨p,0,none⟩)] w (.tuple #[.string ⟨(ze (Rat.divInt (a*d - c*b) (b*d))).toArray⟩,.int .i64 0]):=by
 have M1:=LH (fun w hw=>zbp a b c d ha hb hc hd h1 h2 w hw)
 have M2:=LH (fun w hw=>zna (a*d) (c*b) h1 h2 w hw)
 have M3:=LH (fun w hw=>zaO b d hb hd w hw)
 have M4:=LH (fun w hw=>zb6 (a*d - c*b) (b*d) hn h3 h4 w hw)
 rw[zei h3]at M2
 rw[zei h4]at M3
 clear ha hb hc hd h1 h2 h3 h4 hn
 generalize ze (Rat.divInt (a*d - c*b) (b*d))=R at *
 generalize Lib.itoa (a*d - c*b)=Z at *
 generalize Lib.itoa (a*d)=X at *
 generalize Lib.itoa (c*b)=Y at *
 generalize Lib.itoa (b*d)=U at *
 generalize Lib.itoa a=A at *
 generalize Lib.itoa b=B at *
 generalize Lib.itoa c=C at *
 generalize Lib.itoa d=D at *
 go_enter Tryz.func140,Tryz.ntmps140
 go_wp2_with fail
 refine cx (M1.out _ (hE.q bt)) fun w1 hq1=>?_
 have B1:=((Blk.new w [.string ⟨A.toArray⟩,.string ⟨B.toArray⟩] 133).alloc (.cells #[.string ⟨C.toArray⟩,.string ⟨D.toArray⟩] 133)).keep hq1 (by simp;omega)
 have B2:=(Blk.new (w.alloc (.cells #[.string ⟨A.toArray⟩,.string ⟨B.toArray⟩] 133)) [.string ⟨C.toArray⟩,.string ⟨D.toArray⟩] 133).keep hq1 (by simp)
 rw[World.size_alloc]at B2
 have hQ1:Q w w1:=Q.trans (show Below w.heap.size w _ from bt) hq1
 have pc1:=za hQ1 hpc
 go_wp2_with fail
 refine cx (M2.out _ (hE.q hQ1)) fun w2 hq2=>?_
 have hQ2:=Q.trans hQ1 hq2
 have C1:=B1.keep hq2 B1.lt
 have C2:=B2.keep hq2 B2.lt
 have c0:=C1.cell
 have d0:=C2.cell
 clear pc1 M1 M2
 go_wp2_with fail
 refine cx (M3.out _ (hE.q hQ2)) fun w3 hq3=>?_
 have hQ3:=Q.trans hQ2 hq3
 clear c0 d0 M3
 go_wp2_with fail
 refine cx (M4.out _ (hE.q hQ3)) fun w4 hq4=>?_
 have hQ4:=Q.trans hQ3 hq4
 go_wp2
 go_ret2
 exact⟨rfl,hQ4⟩
theorem zaF(x y:Str)(f:Value)(hx:x.length≤1000000000)(hy:y.length≤1000000000)(h:zcm x=none∨zcm y=none)(w:World) :
  CR 70 #[.string ⟨x.toArray⟩,.string ⟨y.toArray⟩,f] w (.tuple #[.string ⟨#[]⟩,.bool false]):=by
 have N1:=LH (fun w=>zH x hx w)
 have N2:=LH (fun w=>zH y hy w)
 cases hn:zcm x with
 | none =>
  rw[zc4 hn]at N1
  clear hn h
  go_enter Tryz.func70,Tryz.ntmps70
  go_wp2_with fail
  refine cx (N1.out _) fun w1 hq1=>?_
  go_wp2
  go_ret2
  exact⟨rfl,hq1.alloc hq1.size _⟩
 | some nd =>
  obtain⟨n,d⟩:=nd
  rw[zd9 hn]at N1
  have h2:zcm y=none:=by
   rcases h with h | h
   ·rw[h]at hn;cases hn
   ·exact h
  rw[zc4 h2]at N2
  clear hn h h2
  go_enter Tryz.func70,Tryz.ntmps70
  go_wp2_with fail
  refine cx (N1.out _) fun w1 hq1=>?_
  go_wp2_with fail
  refine cx (N2.out _) fun w2 hq2=>?_
  have hQ2:Q w w2:=Q.trans hq1 (Q.trans ((Below.refl _ w1).alloc (Nat.le_refl _) _) hq2)
  go_wp2
  go_ret2
  exact⟨rfl,hQ2.alloc hQ2.size _⟩
theorem zdK(x y:Rat)(hx:zam x=false)(hy:zam y=false)(V1 V2:Value)(w:World)(hE:Env w)
  (HF:∀ w',Q w w'→Calls Tryz.prog 76 #[(.agg #[.string ⟨(Lib.itoa x.num).toArray⟩,.string ⟨(Lib.itoa (x.den:Int)).toArray⟩]),(.agg #[.string ⟨(Lib.itoa y.num).toArray⟩,.string ⟨(Lib.itoa (y.den:Int)).toArray⟩])] w' fun e w''=>e=.returned (.tuple #[V1,V2])∧Q w' w'') :
  CR 72 #[.string ⟨(ze x).toArray⟩,.string ⟨(ze y).toArray⟩,.func (.func 76) #[] #[]] w (.tuple #[V1,V2]):=by
 have R1:=LH (fun w hw=>zaf x hx w hw)
 have R2:=LH (fun w hw=>zaf y hy w hw)
 have HF:=LH HF
 clear hx hy
 generalize ze x=X at *
 generalize ze y=Y at *
 generalize Lib.itoa x.num=A at *
 generalize Lib.itoa (x.den:Int)=B at *
 generalize Lib.itoa y.num=C at *
 generalize Lib.itoa (y.den:Int)=D at *
 go_enter Tryz.func72,Tryz.ntmps72
 go_wp2_with fail
 refine cx (R1.out _ hE) fun w1 hq1=>?_
 go_wp2_with fail
 refine cx (R2.out _ (hE.q (hq1.alloc hq1.size _))) fun w2 hq2=>?_
 have hQ2:Q w w2:=Q.trans hq1 (Q.trans ((Below.refl _ w1).alloc (Nat.le_refl _) _) hq2)
 have B1:=(Blk.new w1 [.string ⟨A.toArray⟩,.string ⟨B.toArray⟩] 133).keep hq2 (by simp)
 have c0:=B1.cell
 have l1:=B1.lt
 go_wp2_with fail
 refine cx (HF.out _ (hQ2.alloc hQ2.size _)) fun w3 hq3=>?_
 have hQ3:=Q.trans (hQ2.alloc hQ2.size _) hq3
 clear R1 R2 HF c0
 go_wp2
 go_ret2
 exact⟨rfl,hQ3⟩
theorem zgS(x y:Rat)(hx:zam x=false)(hy:zam y=false)(V1 V2:Value)(w:World)(hE:Env w)
  (HF:∀ w',Q w w'→Calls Tryz.prog 94 #[(.agg #[.string ⟨(Lib.itoa x.num).toArray⟩,.string ⟨(Lib.itoa (x.den:Int)).toArray⟩]),(.agg #[.string ⟨(Lib.itoa y.num).toArray⟩,.string ⟨(Lib.itoa (y.den:Int)).toArray⟩])] w' fun e w''=>e=.returned (.tuple #[V1,V2])∧Q w' w'') :
  CR 72 #[.string ⟨(ze x).toArray⟩,.string ⟨(ze y).toArray⟩,.func (.func 94) #[] #[]] w (.tuple #[V1,V2]):=by
 have R1:=LH (fun w hw=>zaf x hx w hw)
 have R2:=LH (fun w hw=>zaf y hy w hw)
 have HF:=LH HF
 clear hx hy
 generalize ze x=X at *
 generalize ze y=Y at *
 generalize Lib.itoa x.num=A at *
 generalize Lib.itoa (x.den:Int)=B at *
 generalize Lib.itoa y.num=C at *
 generalize Lib.itoa (y.den:Int)=D at *
 go_enter Tryz.func72,Tryz.ntmps72
 go_wp2_with fail
 refine cx (R1.out _ hE) fun w1 hq1=>?_
 go_wp2_with fail
 refine cx (R2.out _ (hE.q (hq1.alloc hq1.size _))) fun w2 hq2=>?_
 have hQ2:Q w w2:=Q.trans hq1 (Q.trans ((Below.refl _ w1).alloc (Nat.le_refl _) _) hq2)
 have B1:=(Blk.new w1 [.string ⟨A.toArray⟩,.string ⟨B.toArray⟩] 133).keep hq2 (by simp)
 have c0:=B1.cell
 have l1:=B1.lt
 go_wp2_with fail
 refine cx (HF.out _ (hQ2.alloc hQ2.size _)) fun w3 hq3=>?_
 have hQ3:=Q.trans (hQ2.alloc hQ2.size _) hq3
 clear R1 R2 HF c0
 go_wp2
 go_ret2
 exact⟨rfl,hQ3⟩
theorem zb7(x y:Rat)(hx:zam x=false)(hy:zam y=false)(p:Nat)(V1 V2:Value)(w:World)(hE:Env w)
  (HF:∀ w',Q w w'→Calls Tryz.prog 140 #[(.agg #[.string ⟨(Lib.itoa x.num).toArray⟩,.string ⟨(Lib.itoa (x.den:Int)).toArray⟩]),(.agg #[.string ⟨(Lib.itoa y.num).toArray⟩,.string ⟨(Lib.itoa (y.den:Int)).toArray⟩]),.pointer (some ⟨p,0,none⟩)] w' fun e w''=>e=.returned (.tuple #[V1,V2])∧Q w' w'') :
  CR 72 #[.string ⟨(ze x).toArray⟩,.string ⟨(ze y).toArray⟩,.func (.func 140) #[] #[.pointer (some ⟨p,0,none⟩)]] w (.tuple #[V1,V2]):=by
 have R1:=LH (fun w hw=>zaf x hx w hw)
 have R2:=LH (fun w hw=>zaf y hy w hw)
 have HF:=LH HF
 clear hx hy
 generalize ze x=X at *
 generalize ze y=Y at *
 generalize Lib.itoa x.num=A at *
 generalize Lib.itoa (x.den:Int)=B at *
 generalize Lib.itoa y.num=C at *
 generalize Lib.itoa (y.den:Int)=D at *
 go_enter Tryz.func72,Tryz.ntmps72
 go_wp2_with fail
 refine cx (R1.out _ hE) fun w1 hq1=>?_
 go_wp2_with fail
 refine cx (R2.out _ (hE.q (hq1.alloc hq1.size _))) fun w2 hq2=>?_
 have hQ2:Q w w2:=Q.trans hq1 (Q.trans ((Below.refl _ w1).alloc (Nat.le_refl _) _) hq2)
 have B1:=(Blk.new w1 [.string ⟨A.toArray⟩,.string ⟨B.toArray⟩] 133).keep hq2 (by simp)
 have c0:=B1.cell
 have l1:=B1.lt
 go_wp2_with fail
 refine cx (HF.out _ (hQ2.alloc hQ2.size _)) fun w3 hq3=>?_
 have hQ3:=Q.trans (hQ2.alloc hQ2.size _) hq3
 clear R1 R2 HF c0
 go_wp2
 go_ret2
 exact⟨rfl,hQ3⟩
theorem Rat.mul_is(x y:Rat):Rat.divInt (x.num*y.num) ((x.den:Int)*y.den)=x*y:=by conv=>rhs;rw[← Rat.num_divInt_den x,← Rat.num_divInt_den y,Rat.divInt_mul_divInt]
theorem zbm{x y:Rat}(h:¬ (zR x∧zR y)):zcm (ze x)=none∨zcm (ze y)=none:=by
 by_cases hx:zR x
 ·exact .inr (zgg (fun hy=>h ⟨hx,hy⟩))
 ·exact .inl (zgg hx)
theorem Rat.add_is(x y:Rat):Rat.divInt (x.num*y.den+y.num*x.den) ((x.den:Int)*y.den)=x+y:=by
 have hxd:=x.den_nz
 have hyd:=y.den_nz
 conv=>rhs;rw[← Rat.num_divInt_den x,← Rat.num_divInt_den y,Rat.divInt_add_divInt _ _ (by omega) (by omega)]
theorem Rat.sub_is(x y:Rat):Rat.divInt (x.num*y.den - y.num*x.den) ((x.den:Int)*y.den)=x - y:=by
 have hxd:=x.den_nz
 have hyd:=y.den_nz
 conv=>rhs;rw[← Rat.num_divInt_den x,← Rat.num_divInt_den y,Rat.divInt_sub_divInt _ _ (by omega) (by omega)]
theorem Rat.div_is(x y:Rat):Rat.divInt (x.num*y.den) (y.num*(x.den:Int))=x / y:=by
 conv=>rhs;rw[← Rat.num_divInt_den x,← Rat.num_divInt_den y,Rat.div_def,Rat.inv_divInt,Rat.divInt_mul_divInt]
 rw[Int.mul_comm (x.den:Int)]
theorem zhe(x y:Rat):((x.den:Int)*y.den)≠0:=by
 have hxd:=x.den_nz
 have hyd:=y.den_nz
 exact Int.mul_ne_zero (by omega) (by omega)
theorem zhl(x y:Rat)(hx:zam x=false)(hy:zam y=false)(h1:lim (x.num*y.num)=false)(h2:lim ((x.den:Int)*y.den)=false)(w:World)(hE:Env w) :
  CR 43 #[.string ⟨(ze x).toArray⟩,.string ⟨(ze y).toArray⟩] w (.tuple #[.string ⟨(ze (x*y)).toArray⟩,.int .i64 0]):=by
 by_cases hs:zR x∧zR y
 ·exact zf8 x y hs.1 hs.2 w hE
 ·have HQ:=LH (fun w=>zaF (ze x) (ze y) (.func (.func 75) #[] #[]) (by have:=zaA hx;omega) (by have:=zaA hy;omega) (zbm hs) w)
  have HF:=fun w' hw'=>zku x.num (x.den:Int) y.num (y.den:Int) (zx hx).1 (zx hx).2 (zx hy).1 (zx hy).2 (zhe x y) h1 h2 w' hw'
  rw[Rat.mul_is]at HF
  have HB:=LH (fun w (hw:Env w)=>zdK x y hx hy _ _ w hw (fun w' hq=>HF w' (hw.q hq)))
  clear HF hs hx hy h1 h2
  generalize ze (x*y)=R at *
  go_enter Tryz.func43,Tryz.ntmps43
  go_wp2_with fail
  refine cx (HQ.out _) fun w1 hq1=>?_
  go_wp2_with fail
  refine cx (HB.out _ (hE.q hq1)) fun w2 hq2=>?_
  have hQ2:=Q.trans hq1 hq2
  go_wp2
  go_ret2
  exact⟨rfl,hQ2⟩
theorem zhm(x y:Rat)(hx:zam x=false)(hy:zam y=false)(hy0:y.num≠0)(h1:lim (x.num*y.den)=false)(h2:lim (y.num*(x.den:Int))=false)(w:World)(hE:Env w) :
  CR 48 #[.string ⟨(ze x).toArray⟩,.string ⟨(ze y).toArray⟩] w (.tuple #[.string ⟨(ze (x / y)).toArray⟩,.int .i64 0]):=by
 by_cases hs:zR x∧zR y
 ·exact zf9 x y hs.1 hs.2 hy0 w hE
 ·have hz:(ze y == [48])=false:=by
   rw[beq_eq_false_iff_ne]
   intro e
   have:y=0:=zbt (by rw[e,← zae];rfl)
   exact hy0 (by rw[this];rfl)
  have hz':=zaB hz
  have hxd:=x.den_nz
  have HQ:=LH (fun w=>zaF (ze x) (ze y) (.func (.func 93) #[] #[]) (by have:=zaA hx;omega) (by have:=zaA hy;omega) (zbm hs) w)
  have HF:=fun w' hw'=>zkv x.num (x.den:Int) y.num (y.den:Int) (zx hx).1 (zx hx).2 (zx hy).1 (zx hy).2 hy0 (Int.mul_ne_zero hy0 (by omega)) h1 h2 w' hw'
  rw[Rat.div_is]at HF
  have HB:=LH (fun w (hw:Env w)=>zgS x y hx hy _ _ w hw (fun w' hq=>HF w' (hw.q hq)))
  clear HF hs hx hy h1 h2 hy0 hxd
  generalize ze (x / y)=R at *
  go_enter Tryz.func48,Tryz.ntmps48
  go_wp2_with fail
  refine cx (HQ.out _) fun w1 hq1=>?_
  go_wp2_with fail
  refine cx (HB.out _ (hE.q hq1)) fun w2 hq2=>?_
  have hQ2:=Q.trans hq1 hq2
  go_wp2
  go_ret2
  exact⟨rfl,hQ2⟩
theorem zbH(k:Nat)(w:World) :
  Calls Tryz.prog 73 #[.func (.func k) #[] #[]] w fun e w'=>e=.returned (.func (.func 140) #[] #[.pointer (some ⟨w.heap.size,0,none⟩)])∧Q w w'∧w.heap.size<w'.heap.size∧w'.cell? ⟨w.heap.size,0,none⟩=some (.func (.func k) #[] #[]):=by
 go_enter Tryz.func73,Tryz.ntmps73
 go_wp2
 go_ret
 exact⟨rfl,(Below.refl _ w).alloc (Nat.le_refl _) _,by simp,(Blk.new w [.func (.func k) #[] #[]] _).cell 0⟩
theorem zhn(x y:Rat)(hx:zam x=false)(hy:zam y=false)(h1:lim (x.num*y.den)=false)(h2:lim (y.num*(x.den:Int))=false)(h3:lim (x.num*y.den+y.num*x.den)=false)(h4:lim ((x.den:Int)*y.den)=false)(w:World)(hE:Env w) :
  CR 212 #[.string ⟨(ze x).toArray⟩,.string ⟨(ze y).toArray⟩] w (.tuple #[.string ⟨(ze (x+y)).toArray⟩,.int .i64 0]):=by
 by_cases hs:zR x∧zR y
 ·exact zga x y hs.1 hs.2 w hE
 ·have HQ:=LH (fun w=>zaF (ze x) (ze y) (.func (.func 275) #[] #[]) (by have:=zaA hx;omega) (by have:=zaA hy;omega) (zbm hs) w)
  have HF:=fun w' hw' p hp hpc=>zeD x.num (x.den:Int) y.num (y.den:Int) (zx hx).1 (zx hx).2 (zx hy).1 (zx hy).2 (zhe x y) h1 h2 h3 h4 w' hw' p hp hpc
  rw[Rat.add_is]at HF
  have HB:=LH (fun w (hw:Env w) p (hp:p<w.heap.size) (hpc:w.cell? ⟨p,0,none⟩=some (.func (.func 276) #[] #[]))=>zb7 x y hx hy p _ _ w hw (fun w' hq=>HF w' (hw.q hq) p (Nat.lt_of_lt_of_le hp hq.size) (za hq hpc)))
  have HC:=LH (fun w=>zbH 276 w)
  clear HF hs hx hy h1 h2 h3 h4
  generalize ze (x+y)=R at *
  go_enter Tryz.func212,Tryz.ntmps212
  go_wp2_with fail
  refine cx (HQ.out _) fun w1 hq1=>?_
  go_wp2_with fail
  refine(HC.out _).mono ?_
  rintro e w2⟨rfl,hq2,hp,hpc⟩
  have hQ2:=Q.trans hq1 hq2
  go_wp2_with fail
  refine cx (HB.out _ (hE.q hQ2) _ hp hpc) fun w3 hq3=>?_
  have hQ3:=Q.trans hQ2 hq3
  go_wp2
  go_ret2
  exact⟨rfl,hQ3⟩
theorem zlB(x y:Rat)(hx:zam x=false)(hy:zam y=false)(h1:lim (x.num*y.den)=false)(h2:lim (y.num*(x.den:Int))=false)(h3:lim (x.num*y.den - y.num*x.den)=false)(h4:lim ((x.den:Int)*y.den)=false)(w:World)(hE:Env w) :
  CR 42 #[.string ⟨(ze x).toArray⟩,.string ⟨(ze y).toArray⟩] w (.tuple #[.string ⟨(ze (x - y)).toArray⟩,.int .i64 0]):=by
 by_cases hs:zR x∧zR y
 ·exact zf7 x y hs.1 hs.2 w hE
 ·have HQ:=LH (fun w=>zaF (ze x) (ze y) (.func (.func 71) #[] #[]) (by have:=zaA hx;omega) (by have:=zaA hy;omega) (zbm hs) w)
  have HF:=fun w' hw' p hp hpc=>zeC x.num (x.den:Int) y.num (y.den:Int) (zx hx).1 (zx hx).2 (zx hy).1 (zx hy).2 (zhe x y) h1 h2 h3 h4 w' hw' p hp hpc
  rw[Rat.sub_is]at HF
  have HB:=LH (fun w (hw:Env w) p (hp:p<w.heap.size) (hpc:w.cell? ⟨p,0,none⟩=some (.func (.func 74) #[] #[]))=>zb7 x y hx hy p _ _ w hw (fun w' hq=>HF w' (hw.q hq) p (Nat.lt_of_lt_of_le hp hq.size) (za hq hpc)))
  have HC:=LH (fun w=>zbH 74 w)
  clear HF hs hx hy h1 h2 h3 h4
  generalize ze (x - y)=R at *
  go_enter Tryz.func42,Tryz.ntmps42
  go_wp2_with fail
  refine cx (HQ.out _) fun w1 hq1=>?_
  go_wp2_with fail
  refine(HC.out _).mono ?_
  rintro e w2⟨rfl,hq2,hp,hpc⟩
  have hQ2:=Q.trans hq1 hq2
  go_wp2_with fail
  refine cx (HB.out _ (hE.q hQ2) _ hp hpc) fun w3 hq3=>?_
  have hQ3:=Q.trans hQ2 hq3
  go_wp2
  go_ret2
  exact⟨rfl,hQ3⟩
end
section
open Go.RowKit Kp
open Go.Lib (decDigits)
def zdo(q:Rat):Prop:=(decDigits q.num.natAbs).length≤90∧(decDigits q.den).length≤90
theorem zkS{z:Int}(h:(decDigits z.natAbs).length≤300):lim z=false:=by
 have h1:=zcc z
 have h2:=zeN (zcv z)
 cases hl:lim z with
 | false=>rfl
 | true =>
  rw[hl,if_pos rfl]at h1
  have:=h2.2.1 h1
  rw[zav]at this;omega
theorem zdo.zam{q:Rat}(h:zdo q):zam q=false:=by
 unfold Kp.zam
 rw[zkS (z:=q.num) (by have:=h.1;omega),zkS (z:=(q.den:Int)) (by rw[Int.natAbs_natCast];have:=h.2;omega)]
 rfl
theorem zR.root90{q:Rat}(h:zR q):zdo q:=by
 have h1:=(zm q.num.natAbs 8 (by decide)).2 (by have:=h.1;omega)
 have h2:=(zm q.den 8 (by decide)).2 (by have:=h.2;omega)
 exact⟨by omega,by omega⟩
theorem zf0(x y:Int)(hx:lim x=false)(hy:lim y=false)(h:lim (x*y)=false)(w:World)(hE:Env w) :
  CR 217 #[.string ⟨(Lib.itoa x).toArray⟩,.string ⟨(Lib.itoa y).toArray⟩] w (.string ⟨(Lib.itoa (x*y)).toArray⟩):=by
 have M:=LH (zaO x y hx hy w hE)
 rw[zei h]at M
 go_enter Tryz.func217,Tryz.ntmps217
 go_wp2_with fail
 refine M.out.mono ?_
 rintro e w1⟨rfl,hq1⟩
 go_wp2
 go_ret
 exact⟨rfl,hq1⟩
theorem zkk(x y:Int)(hx:lim x=false)(hy:lim y=false)(hy0:y≠0)(w:World)(hE:Env w) :
  CR 280 #[.string ⟨(Lib.itoa x).toArray⟩,.string ⟨(Lib.itoa y).toArray⟩] w (.tuple #[.string ⟨(Lib.itoa (x.fdiv y)).toArray⟩,.string ⟨(Lib.itoa (x.fmod y)).toArray⟩]):=by
 have M:=LH (zdy x y hx hy hy0 w hE)
 go_enter Tryz.func280,Tryz.ntmps280
 go_wp2_with fail
 refine M.out.mono ?_
 rintro e w1⟨rfl,hq1⟩
 go_wp2
 go_ret2
 exact⟨rfl,hq1⟩
theorem znE(z:Int):ze (z:Rat)=Lib.itoa z:=by unfold ze;rw[if_pos (by rfl)];rfl
theorem zdX(n d:Int)(hn:lim n=false)(hd:lim d=false)(hd0:d≠0)(w:World)(hE:Env w) :
  CR 220 #[.string ⟨(Lib.itoa n).toArray⟩,.string ⟨(Lib.itoa d).toArray⟩] w (.string ⟨(ze (Rat.divInt n d)).toArray⟩):=by
 have hr:∀ z:Int,lim z=false→zam (z:Rat)=false:=fun z hz=>by unfold zam;rw[show ((z:Rat)).num=z from rfl,hz];exact zm5
 have M:=zhm (n:Rat) (d:Rat) (hr n hn) (hr d hd) hd0 (by rw[show ((n:Rat)).num=n from rfl,show ((d:Rat)).den=1 from rfl];simpa using hn) (by rw[show ((d:Rat)).num=d from rfl,show ((n:Rat)).den=1 from rfl];simpa using hd) w hE
 rw[← Rat.div_is,znE,znE,show ((n:Rat)).num=n from rfl,show ((d:Rat)).den=1 from rfl,show ((d:Rat)).num=d from rfl,show ((n:Rat)).den=1 from rfl,show n*((1:Nat):Int)=n by simp,show d*((1:Nat):Int)=d by simp]at M
 have M:=LH M
 go_enter Tryz.func220,Tryz.ntmps220
 go_wp2_with fail
 refine M.out.mono ?_
 rintro e w1⟨rfl,hq1⟩
 go_wp2
 go_ret
 exact⟨rfl,hq1⟩
theorem ziO(n:Nat):zw n*zw n≤n:=(zcV n).1
theorem zss{n:Nat}(h:(Lib.itoa (n:Int)).length≤17):n<100000000000000000:=by
 rw[← zB]at h
 have:=(zm n 17 (by decide)).1 h
 simpa using this
theorem zgP(n:Nat)(hn:lim (n:Int)=false)(w:World)(hE:Env w) :
  CR 219 #[.string ⟨(Lib.itoa (n:Int)).toArray⟩] w (.tuple #[.string ⟨(Lib.itoa (zw n:Int)).toArray⟩,.bool (decide (zw n*zw n=n))]):=by
 have hsq:=ziO n
 by_cases hl:(Lib.itoa (n:Int)).length≤17
 ·have hb:=zss hl
  have M1:=LH (zfq (n:Int) hl w)
  have M2:=LH (fun w=>zez n hb w)
  have hr:zw n<1000000000:=by
   rcases Nat.lt_or_ge (zw n) 1000000000 with a | a
   ·exact a
   ·have:1000000000*1000000000≤zw n*zw n:=Nat.mul_le_mul a a
    omega
  have M3:=LH (fun w hw=>zaq (zw n:Int) (by omega) (by omega) w hw)
  have hmul:(zw n:Int)*(zw n:Int)=((zw n*zw n:Nat):Int):=by simp
  have HB:Hid (decide (zw n*zw n=n)=((zw n:Int)*(zw n:Int) == (n:Int))):=LH (by
   rw[hmul];by_cases h:zw n*zw n=n
   ·simp[h]
   ·rw[decide_eq_false h];symm;rw[beq_eq_false_iff_ne];omega)
  have m0:=Int.natCast_nonneg (zw n*zw n)
  have m1:((zw n*zw n:Nat):Int)≤n:=by omega
  rw[← hmul]at m0 m1
  rw[HB.out]
  generalize zw n=r at *
  clear hmul hsq
  go_enter Tryz.func219,Tryz.ntmps219
  go_wp2_with fail
  refine M1.out.mono ?_
  rintro e w1⟨rfl,hq1⟩
  go_wp2_with fail
  refine(M2.out _).mono ?_
  rintro e w2⟨rfl,rfl⟩
  go_wp2_with fail
  refine cx (M3.out _ (hE.q hq1)) fun w3 hq3=>?_
  have hQ3:=Q.trans hq1 hq3
  go_wp2
  go_ret2
  exact⟨rfl,hQ3⟩
 ·have hlen:=zU _ hn
  have M1:=LH (zhD (Lib.itoa (n:Int)) (by omega) (by omega) w)
  have M2:=LH (fun w hw=>zl9 n hn w hw)
  have hrl:lim (zw n:Int)=false:=zcj hn (by have:=zgm n;omega)
  have hsl:lim ((zw n:Int)*(zw n:Int))=false:=zcj hn (by rw[← Int.natCast_mul];omega)
  have M3:=LH (fun w hw=>zf0 (zw n:Int) (zw n:Int) hrl hrl hsl w hw)
  have HB:Hid (decide (zw n*zw n=n)=(Lib.itoa ((zw n:Int)*(zw n:Int)) == Lib.itoa (n:Int))):=LH (by
   rw[← Int.natCast_mul];by_cases h:zw n*zw n=n
   ·simp[h]
   ·rw[decide_eq_false h];symm;rw[beq_eq_false_iff_ne];exact fun e=>h (by have:=zak e;omega))
  rw[HB.out]
  clear hsq hrl hsl
  generalize Lib.itoa ((zw n:Int)*(zw n:Int))=X at *
  generalize Lib.itoa (zw n:Int)=Y at *
  go_enter Tryz.func219,Tryz.ntmps219
  go_wp2_with fail
  refine M1.out.mono ?_
  rintro e w1⟨rfl,rfl⟩
  go_wp2_with fail
  refine cx (M2.out _ hE) fun w2 hq2=>?_
  go_wp2_with fail
  refine cx (M3.out _ (hE.q hq2)) fun w3 hq3=>?_
  have hQ3:=Q.trans hq2 hq3
  go_wp2
  go_ret2
  exact⟨rfl,hQ3⟩
theorem zgN(q:Rat)(h:zam q=false)(w:World)(hE:Env w) :
  CR 214 #[.string ⟨(ze q).toArray⟩] w (.agg #[.string ⟨(Lib.itoa q.num).toArray⟩,.string ⟨(Lib.itoa (q.den:Int)).toArray⟩]):=by
 go_enter Tryz.func214,Tryz.ntmps214
 go_wp2_with fail
 refine cx (zbJ q h _ (hE.q bt)) fun w1 hq1=>?_
 have hQ1:Q w w1:=Q.trans (show Below w.heap.size w _ from bt) hq1
 have B1:=(Blk.new w [.string ⟨#[]⟩,.string ⟨#[]⟩] 273).keep hq1 (by simp)
 have c0:=B1.cell
 have f0:=B1.frozen 0
 have f1:=B1.frozen 1
 have l1:=B1.lt
 go_wp2
 refine bodyPost_ret (v:=.agg #[.string ⟨(Lib.itoa q.num).toArray⟩,.string ⟨(Lib.itoa (q.den:Int)).toArray⟩])
  (ztu _ _ w.heap.size _ _ rfl (((B1.set 0 _).set 1 _).cell 0) (((B1.set 0 _).set 1 _).cell 1)) rfl ⟨rfl,?_⟩
 exact(hQ1.setCell (p:=⟨w.heap.size,0,none⟩) (Nat.le_refl _) _).setCell (p:=⟨w.heap.size,1,none⟩) (Nat.le_refl _) _
theorem ze2(qs rs:List Rat)(hq8:∀ q∈qs,zdo q)(v1 v2:Value)(w:World)(hE:Env w)(h1:zb2 w v1 (qs.map ze))(h2:zb2 w v2 (rs.map ze))(hl1:qs.length≤100)(hl2:rs.length≤100) :
  CR 213 #[v1,v2] w (.int .i64 (if ∀ q∈rs,0≤q.num then 0 else 2)):=by
 obtain⟨b1,o1,cap1,rfl,hb1,hc1⟩:=h1
 obtain⟨b2,o2,cap2,rfl,hb2,hc2⟩:=h2
 rw[List.length_map]at hc1 hc2
 rw[List.length_map,List.length_map]
 generalize hans:(if ∀ q∈rs,0≤q.num then 0 else 2:Int)=ans
 have hans1:Hid ((∀ q∈rs,0≤q.num)→ans=0):=LH (fun h=>by rw[← hans,if_pos h])
 have hans2:Hid ((¬ ∀ q∈rs,0≤q.num)→ans=2):=LH (fun h=>by rw[← hans,if_neg h])
 clear hans
 go_enter Tryz.func213,Tryz.ntmps213
 go_wp2
 go_loopw [13] (fun i wr=>∃ k:Nat,k≤qs.length∧i=.int .i64 k∧Q w wr∧Env wr) (fun i _=>qs.length - (intOf i).toNat)
 case atStart=>exact⟨0,by omega,rfl,Below.refl _ _,hE⟩
 case round =>
  obtain⟨k,hk,rfl,hQ,hEr⟩:=hrel
  by_cases hlt:k<qs.length
  ·have hcell:=hc1 k hlt
   have hcell':wr.cell? ⟨b1,o1+k,none⟩=some (.string ⟨((qs.map ze).getD k []).toArray⟩):=by rw[hQ.cell (p:=⟨b1,o1+k,none⟩) hb1];exact hcell
   have hq:(qs.map ze).getD k []=ze qs[k]:=by rw[List.getD_eq_getElem?_getD,List.getElem?_map,List.getElem?_eq_getElem hlt];rfl
   have h8:=hq8 qs[k] (List.getElem_mem hlt)
   rw[hq]at hcell'
   clear hcell hc1 hc2 hq8 hq
   generalize qs[k]=q at *
   have hrl:=h8.zam
   have lq1:=zU q.num (zx hrl).1
   have ln1:(zo (Lib.itoa q.num)).length≤90:=by rw[zav];exact h8.1
   have ld1:(Lib.itoa (q.den:Int)).length≤90:=by rw[← zB];exact h8.2
   have hlr:=zaA hrl
   have hck:=zdu (ze q) (by omega) wr hEr
   rw[show zcg (ze q)=0 by rw[zb5,hrl];rfl]at hck
   have HCK:=LH hck
   clear hck
   go_wp2_with fail
   refine HCK.out.mono ?_
   rintro e w1⟨rfl,hq1⟩
   go_wp2_with fail
   refine cx (zgN q hrl _ (hEr.q hq1)) fun w2 hq2=>?_
   have hQ2:Q w w2:=Q.trans hQ (Q.trans hq1 hq2)
   go_wp2_with fail
   go_quiet ((go_at_call 155;exact zjH (zP _ _)))
   go_wp2
   go_roundw
   case rel=>exact⟨k+1,by omega,by go_num,Below.drewN (hQ2.alloc hQ2.size _) _,hE.q (Below.drewN (hQ2.alloc hQ2.size _) _)⟩
   case measure=>simp[intOf];omega
  ·obtain rfl:k=qs.length:=by omega
   go_wp2
   go_loop [36] (fun i=>∃ k:Nat,k≤rs.length∧i=.int .i64 k∧∀ q∈rs.take k,0≤q.num) (fun i=>rs.length - (intOf i).toNat)
   case atStart=>exact⟨0,by omega,rfl,by simp⟩
   case round =>
    obtain⟨k,hk,rfl,hall⟩:=hrel
    have HA:=LH hall
    clear hall
    by_cases hlt:k<rs.length
    ·have hcell:=hc2 k hlt
     have hcell':wr.cell? ⟨b2,o2+k,none⟩=some (.string ⟨((rs.map ze).getD k []).toArray⟩):=by rw[hQ.cell (p:=⟨b2,o2+k,none⟩) hb2];exact hcell
     have hq:(rs.map ze).getD k []=ze rs[k]:=by rw[List.getD_eq_getElem?_getD,List.getElem?_map,List.getElem?_eq_getElem hlt];rfl
     rw[hq]at hcell'
     have HR:Hid (rs[k].num<0→¬ ∀ q∈rs,0≤q.num):=LH (fun hneg hx=>by have:=hx rs[k] (List.getElem_mem hlt);omega)
     have HN:Hid (¬ rs[k].num<0→∀ q∈rs.take (k+1),0≤q.num):=LH (fun hneg=>by
       rw[List.take_succ_eq_append_getElem hlt]
       intro q hq
       rcases List.mem_append.1 hq with hq | hq
       ·exact HA.out q hq
       ·rw[List.mem_singleton]at hq;subst hq;omega)
     clear hcell hq hc1 hc2 hq8 HA
     generalize hqk:rs[k]=q at hcell' HR HN
     clear hqk
     by_cases hneg:q.num<0
     ·have hd:decide ((ze q).head? = some 45)=true:=by rw[decide_eq_true_eq,zfW];exact hneg
      have HX:Hid (¬ ∀ q∈rs,0≤q.num):=LH (HR.out hneg)
      clear hneg HR HN
      go_wp2_with (go_at_call 277;go_loud (refine(zfZ _ _).mono ?_);rintro e w1 ⟨rfl,rfl⟩)
      go_ret
      exact⟨zcH (by rw[hans2.out HX.out];all_goals rfl),hQ⟩
     ·have hd:decide ((ze q).head? = some 45)=false:=by rw[decide_eq_false_iff_not,zfW];exact hneg
      have HX:Hid (∀ q∈rs.take (k+1),0≤q.num):=LH (HN.out hneg)
      clear hneg HR HN
      go_wp2_with (go_at_call 277;go_loud (refine(zfZ _ _).mono ?_);rintro e w1 ⟨rfl,rfl⟩)
      go_round
      case rel=>exact⟨k+1,by omega,by go_num,HX.out⟩
      case measure=>simp[intOf];omega
    ·have HR:Hid (∀ q∈rs,0≤q.num):=LH (by
      have:=HA.out
      rw[List.take_of_length_le (by omega)]at this;exact this)
     clear hc1 hc2 hq8
     go_wp2
     go_ret
     exact⟨zcH (by rw[hans1.out HR.out];all_goals rfl),hQ⟩
end
section
open Go.RowKit Go Kp
structure JStays {α:Type} (bs:List Nat) (J:List α→World→Prop):Prop where
 q:∀ pre W W',J pre W→Q W W'→J pre W'
 set:∀ pre W b v,b∈bs→J pre W→J pre (W.setCell ⟨b,0,none⟩ v)
def zoa{α:Type}(m:Nat)(P:Program)(gf:Nat)(lb:Array Value)(encs:α→Array Value)(bs:List Nat)(Pc:List α→World→Prop)(nx:List α→α→Prop)(S Sp:List α→Prop)(w:World):Prop :=
 ∀ (l:Nat) (J Jx:List α→World→Prop) (W:World),Below w.heap.size w W→(∀ pre W,J pre W→Pc pre W)→JStays bs J →
  (∀ pre x W1,J pre W1→nx pre x→YieldAt Fence.wide (m - 1) P l (encs x) W1 fun e W' =>
   (e=.returned (.bool true)∧J (pre++[x]) W'∧zI bs W1 W')∨(e=.returned (.bool false)∧Jx (pre++[x]) W')) →
  J [] W →
  CallsIn Fence.wide m P gf (#[.func (.yield l) #[] #[]]++lb) W fun e W'=>(∃ v,e=.returned v)∧((∃ xs,S xs∧J xs W')∨(∃ pre,Sp pre∧Jx pre W'))
section
variable {α:Type} {P:Program} {g:Operand} {ps:Array Tmp} {assign body:Code} {R:Exit→Act→World→Prop} {a:Act} {w:World} {m gf:Nat} {lb:Array Value} {bs:List Nat}
theorem ze7(hm:1≤m)(hg:a.eval g=.func (.func gf) #[] lb)(eg:∀ args w,(callFunc gf args).run P w=.ok (.enter gf args) w)
  {encs:α→Array Value}{Pc:List α→World→Prop}{nx:List α→α→Prop}{S Sp:List α→Prop}(hseq:zoa (m - 1) P gf lb encs bs Pc nx S Sp w)(hbs:∀ k∈bs,k<w.heap.size)(hps:∀ x,(encs x).size=ps.size)
  (I:List α→World→Prop)(Ix:Code→List α→World→Prop)(hPc:∀ pre W,I pre W→Pc pre W)(hI:zk9 w.heap.size I)(hJ:JStays bs I)(hIx:∀ c,zk9 w.heap.size (Ix c))(h0:I [] w)(a₁:α→Act)
  (hassign:∀ (l:Nat) (x:α) (W:World) (K:Act→World→Prop),K (a₁ x) W →
   assign.wpIn (Fence.wide.inRound l) (m - 1 - 1) P (Exit.then K (fun _ _ _=>False)) { tmps:=(ps.zip (encs x)).foldl (fun t (p,v)=>t.setIfInBounds p v) a.tmps,defers:=[] } W)
  (hbody:∀ (l:Nat) (pre:List α) (x:α) (W:World),I pre W→nx pre x→body.wpIn (Fence.wide.inRound l) (m - 1 - 1) P (roundEnd w.heap.size bs I Ix (pre++[x]) W) (a₁ x) W)
  (hdone:∀ (D:Nat) (xs:List α) (W:World),w.heap.size≤D→S xs→I xs W→W.heap[D]? = some (.deferred (some []))→R .normal { a with defers:={ target:=.collected D,args:=#[] }::a.defers } W)
  (hstop:∀ (D:Nat) (c:Code) (pre:List α) (W:World),w.heap.size≤D→Sp pre→Ix c pre W→W.heap[D]? = some (.deferred (some []))→c.wpIn Fence.wide m P R { a with defers:={ target:=.collected D,args:=#[] }::a.defers } W) :
  (Code.rangeFunc g ps assign body).wpIn Fence.wide m P R a w:=by
 refine wpIn_rangeFunc fun fn hfn=>?_
 obtain⟨D,hD⟩:∃ D,w.heap.size=D:=⟨_,rfl⟩
 let rec0:LoopState→Option Code→Loop:=fun st pe=>{ state:=st,pending:=pe,fn,tmps:=a.tmps,params:=ps,assign,body,defers:=D }
 let W1:=(w.alloc (.deferred (some []))).alloc (.loop (rec0 .ready none))
 have hsz:W1.heap.size=D+2:=by simp[W1,hD]
 have kD:W1.heap[D]? = some (.deferred (some [])):=by
  rw[← hD];exact(Below.heap_alloc _ _ _ (by simp)).trans (World.alloc_heap_new w _)
 have kL:W1.heap[D+1]? = some (.loop (rec0 .ready none)):=by
  rw[← hD];have:=World.alloc_heap_new (w.alloc (.deferred (some []))) (.loop (rec0 .ready none));rwa[World.size_alloc]at this
 have hb1:Below w.heap.size w W1:=((Below.refl _ w).alloc (Nat.le_refl _) _).alloc (by simp) _
 have hI1:I [] W1:=hI _ _ _ h0 ((KC.alloc _ _).trans (KC.alloc _ _)) hb1
 rw[hD]at hI hIx
 have put:∀ {I':List α→World→Prop} {s:List α} {W:World} {o:Obj} (o':Obj),zk9 D I'→I' s W→W.heap[D+1]? = some o→o.isCells=false→I' s (W.putObj (D+1) o') :=
  fun o' hS h hk hc=>hS _ _ _ h (KC.put o' hk hc) (zaQ (by omega) hk o')
 have same:∀ {W:World} {o:Obj} (o':Obj),W.heap[D+1]? = some o→(W.putObj (D+1) o').heap[D+1]? = some o':=fun o' hk=>World.putObj_heap_same (Array.getElem?_eq_some_iff.1 hk).1
 have keepD:∀ {W:World} {o:Obj} (o':Obj),W.heap[D]? = some o→(W.putObj (D+1) o').heap[D]? = some o:=fun o' hk=>(World.putObj_heap_other (by omega)).trans hk
 refine⟨D+1,[{ target:=.collected D,args:=#[] }],W1,{ target:=.fn (.func gf) lb,args:=#[.func (.yield (D+1)) #[] #[]] },W1,gf,#[.func (.yield (D+1)) #[] #[]]++lb,W1,?_,?_,fun _ _=>trivial,?_,fun _=>hm,?_⟩
 ·have:=run_enterLoop_outer (P:=P) (w:=w) fn a.tmps ps assign body
  rw[hD]at this
  exact this
 ·simp only[resolve,hg]
  simp[go_sem]
 ·simp[invoke,go_sem,eg]
 refine(hseq (D+1) (fun pre W=>I pre W∧W.heap[D+1]? = some (.loop (rec0 .ready none))∧W.heap[D]? = some (.deferred (some [])))
  (fun pre W=>∃ c,Ix c pre W∧W.heap[D+1]? = some (.loop (rec0 .done (some c)))∧W.heap[D]? = some (.deferred (some []))) W1 hb1 (fun pre W h=>hPc pre W h.1) ?js ?_ ⟨hI1,kL,kD⟩).mono ?_
 case js =>
  refine⟨fun pre W W' h hq=>⟨hJ.q _ _ _ h.1 hq,(hq.block _ (Array.getElem?_eq_some_iff.1 h.2.1).1).trans h.2.1,(hq.block _ (Array.getElem?_eq_some_iff.1 h.2.2).1).trans h.2.2⟩,fun pre W b v hb h=>?_⟩
  have:=hbs b hb
  have h1:¬ b=D:=by omega
  have h2:¬ b=D+1:=by omega
  exact⟨hJ.set _ _ _ _ hb h.1,by simp only[World.setCell,Array.getElem?_modify,if_neg h2];exact h.2.1,by simp only[World.setCell,Array.getElem?_modify,if_neg h1];exact h.2.2⟩
 ·rintro pre x W ⟨hi,hl,hk⟩ hnx
  have hy:=run_yield (P:=P) (args:=encs x) hl (hps x)
  refine⟨fn,_,assign,body,hy,roundIn_of_wpIn hfn (hassign _ x W _ ⟨_,run_beginRound hl rfl,?_⟩)⟩
  have hl2:=same (.loop { rec0 .ready none with state:=.busy }) hl
  have hk2:=keepD (.loop { rec0 .ready none with state:=.busy }) hk
  have hbs':∀ k∈bs,k<D+1:=fun k hk=>by have:=hbs k hk;omega
  have hw2:zI bs W (W.putObj (D+1) (.loop { rec0 .ready none with state:=.busy })):=zI.put hbs' _ _
  refine wpIn_mono (hbody _ pre x _ (put _ hI hi hl rfl) hnx) ?_
  have fin:∀ (jump:Option Code) (W3:World),KeepsFrom w.heap.size (W.putObj (D+1) (.loop { rec0 .ready none with state:=.busy })) W3 →
    (Instr.endRound (D+1) jump).run P W3=.ok (.bool jump.isNone) (W3.putObj (D+1) (.loop (rec0 (if jump.isNone then .ready else .done) jump))) ∧
    W3.heap[D+1]? = some (.loop { rec0 .ready none with state:=.busy })∧W3.heap[D]? = some (.deferred (some [])):=fun jump W3 hk3=>by
   have hl3:=hk3.same _ _ (by omega) hl2 rfl
   exact⟨run_endRound (P:=P) jump hl3,hl3,hk3.same _ _ (by omega) hk2 rfl⟩
  rintro e a3 W3 hp
  cases e with
  | normal =>
   obtain⟨hk3,hb3,hi3⟩:=hp
   obtain⟨hr,hl3,hd3⟩:=fin none W3 hk3
   exact⟨_,_,hr,.inl ⟨rfl,⟨put _ hI hi3 hl3 rfl,same _ hl3,keepD _ hd3⟩,(hw2.trans hb3).trans (zI.put hbs' _ _)⟩⟩
  | ret =>
   obtain⟨hr,hl3,hd3⟩:=fin (some .ret) W3 hp.1
   exact⟨_,_,hr,.inr ⟨rfl,.ret,put _ (hIx _) hp.2 hl3 rfl,same _ hl3,keepD _ hd3⟩⟩
  | exit id =>
   obtain⟨hr,hl3,hd3⟩:=fin (some (.exit id)) W3 hp.1
   exact⟨_,_,hr,.inr ⟨rfl,.exit id,put _ (hIx _) hp.2 hl3 rfl,same _ hl3,keepD _ hd3⟩⟩
  | goto t =>
   obtain⟨hr,hl3,hd3⟩:=fin (some (.goto t)) W3 hp.1
   exact⟨_,_,hr,.inr ⟨rfl,.goto t,put _ (hIx _) hp.2 hl3 rfl,same _ hl3,keepD _ hd3⟩⟩
  | panic ch=>exact hp.elim
  | outgrown=>exact hp.elim
 ·rintro e W2 ⟨⟨v,rfl⟩,(⟨xs,hS,hi,hl,hk⟩|⟨pre,hSp,c,hi,hl,hk⟩)⟩
  ·exact⟨none,_,run_endLoop (P:=P) hl (by simp[rec0]),hdone D xs _ (by omega) hS (put _ hI hi hl rfl) (keepD _ hk)⟩
  ·exact⟨some c,_,run_endLoop (P:=P) hl (by simp[rec0]),hstop D c pre _ (by omega) hSp (put _ (hIx c) hi hl rfl) (keepD _ hk)⟩
end
end
section
open Go.RowKit Go.Shelf Kp
attribute [local go_sem] Oper.semAt_some
def zab(m:Nat)(pre:List (Nat × Nat)):Nat × Nat:=pre.foldl (fun s x=>(s.1*x.1,x.2)) (1,m)
theorem zhg(m:Nat)(pre:List (Nat × Nat))(x:Nat × Nat):zab m (pre++[x])=((zab m pre).1*x.1,x.2):=by
 unfold zab;rw[List.foldl_append];rfl
def zt4(m:Nat)(pre:List (Nat × Nat))(x:Nat × Nat):Prop:=2≤x.1∧x.1≤97∧(zab m pre).2 % (x.1*x.1)=0∧x.2=(zab m pre).2 / (x.1*x.1)
def zrI(x:Nat × Nat):Array Value:=#[.string ⟨(Lib.itoa (x.1:Int)).toArray⟩,.string ⟨(Lib.itoa (x.2:Int)).toArray⟩]
def zno(W:World)(b:Nat):Nat:=match W.cell? ⟨b,0,none⟩with
 | some (.string s)=>(ival s.data.toList).toNat
 | _=>0
theorem zj1{W:World}{b n:Nat}(h:W.cell? ⟨b,0,none⟩=some (.string ⟨(Lib.itoa (n:Int)).toArray⟩)):zno W b=n:=by
 unfold zno;rw[h];simp only[zcB];exact Int.toNat_natCast n
def zbj(W:World)(b n:Nat):Prop:=Boxed W b 9 (.string ⟨(Lib.itoa (n:Int)).toArray⟩)
theorem zkd{p:Nat}(h:2≤p∧p≤97):lim (p:Int)=false∧lim ((p:Int)*(p:Int))=false∧(p:Int)*(p:Int)≠0:=by
 have h1:p*p≤97*97:=Nat.mul_le_mul h.2 h.2
 have h2:2*2≤p*p:=Nat.mul_le_mul h.1 h.1
 have e:(p:Int)*(p:Int)=((p*p:Nat):Int):=by simp
 refine⟨zdP (Nat.lt_of_le_of_lt (by rw[Int.natAbs_natCast];exact h.2) (by decide)),?_,?_⟩
 ·rw[e];exact zdP (Nat.lt_of_le_of_lt (by rw[Int.natAbs_natCast];exact h1) (by decide))
 ·rw[e];omega
theorem zlC(b p:Nat)(hp:2≤p∧p≤97)(hb:lim (b:Int)=false)(w:World)(hE:Env w) :
  CR 280 #[.string ⟨(Lib.itoa (b:Int)).toArray⟩,.string ⟨(Lib.itoa ((p:Int)*(p:Int))).toArray⟩] w (.tuple #[.string ⟨(Lib.itoa ((b / (p*p):Nat):Int)).toArray⟩,.string ⟨(Lib.itoa ((b % (p*p):Nat):Int)).toArray⟩]):=by
 obtain⟨s1,s2,s3⟩:=zkd hp
 have h:=zkk (b:Int) ((p:Int)*(p:Int)) hb s2 s3 w hE
 rw[Int.fdiv_eq_ediv_of_nonneg _ (by rw[← Int.natCast_mul];omega),Int.fmod_eq_emod_of_nonneg _ (by rw[← Int.natCast_mul];omega)]at h
 rw[show (b:Int) / ((p:Int)*p)=((b / (p*p):Nat):Int) by simp,show (b:Int) % ((p:Int)*p)=((b % (p*p):Nat):Int) by simp]at h
 exact h
theorem zmB(d:Nat)(hd:1≤d)(l Bs m:Nat)(hm0:0<m)(hml:lim (m:Int)=false)(J Jx:List (Nat × Nat)→World→Prop)
  (hPc:∀ pre W,J pre W→Env W)(hJ:JStays [Bs] J)
  (hY:∀ pre x W,J pre W→zt4 m pre x→YieldAt Fence.wide (d - 1) Tryz.prog l (zrI x) W fun e W' =>
   (e=.returned (.bool true)∧J (pre++[x]) W'∧zI [Bs] W W')∨(e=.returned (.bool false)∧Jx (pre++[x]) W'))
  (W:World) (hBs:zbj W Bs m) (h0:J [] W) :
  CallsIn Fence.wide d Tryz.prog 279 #[.func (.yield l) #[] #[],.pointer (some ⟨Bs,0,none⟩)] W fun e W'=>(∃ v,e=.returned v) ∧
   ((∃ ys,zab m ys=zL zK (1,m)∧J ys W')∨(∃ pre,True∧Jx pre W')):=by
 have hE:=hPc _ _ h0
 obtain⟨tp,fp,hrow⟩:=hE.primes.row
 refine callsIn_of_wp Tryz.func279 rfl trivial ?_ rfl
 simp only[Tryz.ntmps279,List.size_toArray,List.length_cons,List.length_nil,Nat.reduceAdd,Nat.reduceSub,Array.replicate_succ,Array.replicate_zero,List.push_toArray,List.append_toArray,List.nil_append,List.cons_append]
 refine wpIn_wide.2 ?_
 go_wp2_with (refine wpList_load_row rfl 333 _ rfl 2 rfl tp zgb fp _ hrow Tryz.underlying333 rfl (by kernel_rfl) ?_)
 refine(wpIn_wide (n:=d)).1 ?_
 gi_loopw [9] (fun i wr=>∃ k:Nat,k≤25∧i=.int .i64 k∧∃ pre,J pre wr∧zbj wr Bs (zab m pre).2∧Hid (zab m pre=zL (zK.take k) (1,m))∧Hid (StripInv m (zab m pre).1 (zab m pre).2)) (fun i _=>25 - (intOf i).toNat)
 case atStart=>exact⟨0,by omega,rfl,[],h0,hBs,LH rfl,LH ⟨hm0,Nat.one_pos,by simp[zab]⟩⟩
 case round =>
  obtain⟨k,hk,rfl,pre,hJp,hL,HS,HI⟩:=hrel
  by_cases hlt:k<25
  ·have hidx:=zis k hlt
   have hp:=zeF k hlt
   have HT:=LH (zde k hlt (1,m))
   generalize hpp:zK.getD k 0=p at *
   have HP:=LH hpp
   have hEr:=hPc _ _ hJp
   obtain⟨s1,s2,s3⟩:=zkd hp
   have HM:=LH (zf0 (p:Int) (p:Int) s1 s1 s2 wr hEr)
   clear hpp
   gi_wp2
   refine⟨trivial,(callsIn_wide.2 HM.out).mono ?_⟩
   rintro e w1⟨rfl,hq1⟩
   have hJ1:=hJ.q _ _ _ hJp hq1
   have hL1:zbj w1 Bs (zab m pre).2:=(hq1.block _ (Array.getElem?_eq_some_iff.1 hL).1).trans hL
   clear hidx HM
   gi_wp2
   gi_loopw [6] (fun _ wr=>∃ pre,J pre wr∧zbj wr Bs (zab m pre).2∧Hid (zbc p (zab m pre).1 (zab m pre).2=zL (zK.take (k+1)) (1,m))∧Hid (StripInv m (zab m pre).1 (zab m pre).2)) (fun _ wr=>zno wr Bs)
   case atStart=>exact⟨pre,hJ1,hL1,LH (by rw[HT.out,HS.out]),HI⟩
   case round =>
    clear hJ1 hL1 HS HI hJp hL HT hq1 hEr
    obtain⟨pre,hJp,hL,HS,HI⟩:=hrel
    obtain⟨⟨c,b⟩,hcb⟩:∃ cb,zab m pre=cb:=⟨_,rfl⟩
    rw[hcb]at hL HS HI
    have HCB:=LH hcb
    have hbl:lim (b:Int)=false:=zcj hml (by have:=HI.out.bounds.1;simp only at this;omega)
    have HQ:=LH (zlC b p hp hbl wr (hPc _ _ hJp))
    have hcell:wr.cell? ⟨Bs,0,none⟩=some (.string ⟨(Lib.itoa (b:Int)).toArray⟩):=hL.cell
    have hnum:=zj1 hcell
    clear hcb
    gi_wp2
    refine⟨trivial,(callsIn_wide.2 HQ.out).mono ?_⟩
    rintro e w2⟨rfl,hq2⟩
    have hJ2:=hJ.q _ _ _ hJp hq2
    have hL2:zbj w2 Bs b:=(hq2.block _ (Array.getElem?_eq_some_iff.1 hL).1).trans hL
    clear HQ hcell
    by_cases hz:b % (p*p)=0
    ·have hr:(Lib.itoa ((b % (p*p):Nat):Int) == [48])=true:=by rw[hz,show ((0:Nat):Int)=0 from rfl,zae];rfl
     have hr':=zbR hr
     have hJ3:=hJ.set _ _ Bs (.string ⟨(Lib.itoa ((b / (p*p):Nat):Int)).toArray⟩) (by simp) hJ2
     have hYk:=hY pre (p,b / (p*p)) _ hJ3 ⟨hp.1,hp.2,by rw[HCB.out];exact hz,by rw[HCB.out]⟩
     obtain⟨fn,tmps,assign,body,hy,hR⟩:=hYk
     have hL3:zbj (w2.setCell ⟨Bs,0,none⟩ (.string ⟨(Lib.itoa ((b / (p*p):Nat):Int)).toArray⟩)) Bs (b / (p*p)):=hL2.set _
     have hf2:=Blk.frozen (cs:=[.string ⟨(Lib.itoa (b:Int)).toArray⟩]) hL2 0
     have hc2:=hL2.cell
     have hc3:=hL3.cell
     have hstep:zab m (pre++[(p,b / (p*p))])=(c*p,b / (p*p)):=by rw[zhg,HCB.out]
     have HN:=LH (HI.out.next hp.1 hz)
     have hlt':b / (p*p)<b:=Nat.div_lt_self HI.out.pos (by have:2*2≤p*p:=Nat.mul_le_mul hp.1 hp.1;omega)
     have HYP:=LH (ze0 (c:=c) hp.1 HI.out.pos hz)
     have HST:=LH hstep
     simp only[zrI]at hy
     clear hstep
     generalize b % (p*p)=rm at *
     generalize b / (p*p)=b2 at *
     clear hz
     gi_wp2
     refine hR.mono ?_
     rintro e W3 (⟨rfl,hJ4,hk4⟩|⟨rfl,hJx4⟩)
     ·have hL4:zbj W3 Bs b2:=(hk4 Bs (by simp) (Array.getElem?_eq_some_iff.1 hL3).1).trans hL3
      have hnum4:=zj1 hL4.cell
      gi_wp2
      go_roundw
      case rel=>exact⟨_,hJ4,by rw[HST.out];exact hL4,LH (by rw[HST.out,← HS.out,HYP.out]),by rw[HST.out];exact HN⟩
      case measure=>rw[hnum,hnum4];exact hlt'
     ·gi_wp2
      refine bodyPost_ret (results_none rfl _ _ _) rfl ?_
      exact⟨⟨_,rfl⟩,.inr ⟨_,trivial,hJx4⟩⟩
    ·have hr:(Lib.itoa ((b % (p*p):Nat):Int) == [48])=false:=by
      rw[beq_eq_false_iff_ne,← zae];exact fun e=>hz (by have:=zak e;omega)
     have hr':=zaB hr
     have HYP:=LH (zfS (p:=p) (c:=c) (m:=b) hz)
     generalize b % (p*p)=rm at *
     generalize b / (p*p)=b2 at *
     clear hz
     gi_wp2
     go_roundw
     case rel=>exact⟨k+1,by omega,by go_num,pre,hJ2,by rw[HCB.out];exact hL2,LH (by rw[← HS.out,HYP.out,HCB.out]),by rw[HCB.out];exact HI⟩
     case measure=>simp only[intOf];omega
  ·obtain rfl:k=25:=by omega
   gi_wp2
   go_end0
   exact⟨⟨_,rfl⟩,.inl ⟨pre,by rw[HS.out];rfl,hJp⟩⟩
end
section
open Go.RowKit Go.Shelf Kp
open Go.Lib (decDigits)
theorem zcU(n:Nat):n<10 ^ (decDigits n).length:=by
 have h:=ziy (decDigits n) (zY n)
 rw[z8]at h
 exact h
theorem zru{n:Int}{d:Nat}(hn:0<n)(h:(Lib.itoa n).length+(Lib.itoa (d:Int)).length≤17):n.toNat*d<100000000000000000:=by
 rw[itoa_nonneg (by omega),← zB]at h
 have h1:=zcU n.toNat
 have h2:=zcU d
 have h3:=Nat.mul_lt_mul'' h1 h2
 rw[← Nat.pow_add]at h3
 have h4:10 ^ ((decDigits n.toNat).length+(decDigits d).length)≤10 ^ 17:=Nat.pow_le_pow_right (by decide) h
 exact Nat.lt_of_lt_of_le h3 (Nat.le_trans h4 (by decide))
theorem zgQ(q:Rat)(h:zdo q)(hp:0<q.num)(hls:(Lib.itoa q.num).length+(Lib.itoa (q.den:Int)).length≤17)(w:World)(hE:Env w) :
  CR 159 #[.string ⟨(ze q).toArray⟩] w (.tuple #[.string ⟨(ze (Rat.divInt (za0 (q.num.toNat*q.den)).1 q.den)).toArray⟩,.string ⟨(Lib.itoa ((za0 (q.num.toNat*q.den)).2:Int)).toArray⟩,.int .i64 0]):=by
 go_enter Tryz.func159,Tryz.ntmps159
 go_wp2_with fail
 have B1:=((Blk.new w [.string ⟨(ze q).toArray⟩] 30).alloc (.cells #[.string ⟨(ze q).toArray⟩] 30))
 have B2:=Blk.new (w.alloc (.cells #[.string ⟨(ze q).toArray⟩] 30)) [.string ⟨(ze q).toArray⟩] 30
 have S2:=zb2.one B2
 have e2:(w.alloc (.cells #[.string ⟨(ze q).toArray⟩] 30)).heap.size=w.heap.size+1:=by simp
 rw[e2]at S2
 clear e2 B2
 refine(ze2 [q] [q] (by intro x hx;rw[List.mem_singleton]at hx;subst hx;exact h) _ _ _ (hE.q bt) (zb2.one B1) S2 (by simp) (by simp)).mono ?_
 have hc:(if ∀ x∈[q],0≤x.num then(0:Int)else 2)=0:=if_pos (by intro x hx;rw[List.mem_singleton]at hx;subst hx;omega)
 rw[hc]
 clear S2 B1 hc
 rintro e w1⟨rfl,hq1⟩
 have hQ1:Q w w1:=Q.trans (show Below w.heap.size w _ from bt) hq1
 clear hq1
 go_wp2_with fail
 refine cx (zgN q h.zam _ (hE.q hQ1)) fun w2 hq2=>?_
 have hQ2:Q w w2:=Q.trans hQ1 hq2
 have nz:=zhr hp
 have lq1:(Lib.itoa q.num).length≤17:=by omega
 have ld1:(Lib.itoa (q.den:Int)).length≤17:=by omega
 go_wp2_with fail
 have B1:=Blk.new w2 [.string ⟨(Lib.itoa q.num).toArray⟩,.string ⟨(Lib.itoa (q.den:Int)).toArray⟩] 273
 have hQ3:Q w (w2.alloc (Obj.cells [.string ⟨(Lib.itoa q.num).toArray⟩,.string ⟨(Lib.itoa (q.den:Int)).toArray⟩].toArray 273)):=hQ2.alloc hQ2.size _
 refine cx (zfq q.num (by omega) _) fun w3 hq3=>?_
 have B3:=B1.keep hq3 (by simp)
 have hQ4:Q w w3:=Q.trans hQ3 hq3
 have c1:=B3.cell 1
 simp only[zs4,zs5]at c1
 clear B1 hQ3 hq3
 go_wp2_with fail
 refine cx (zfq (q.den:Int) (by omega) _) fun w4 hq4=>?_
 have hQ5:Q w w4:=Q.trans hQ4 hq4
 clear c1 B3 hQ4 hq4
 go_wp2_with fail
 have hnd:=zru hp hls
 refine cx (zhI q.num q.den hp q.den_pos hnd _ (hE.q hQ5)) fun w5 hq5=>?_
 have hQ6:Q w w5:=Q.trans hQ5 hq5
 go_wp2
 go_ret3
 exact⟨rfl,hQ6⟩
theorem zlg(Bs m:Nat)(hm0:0<m)(hml:lim (m:Int)=false)(w:World)(d:Nat)(hd:1≤d)(hBs:zbj w Bs m) :
  zoa d Tryz.prog 279 #[.pointer (some ⟨Bs,0,none⟩)] zrI [Bs] (fun _ W=>Env W) (zt4 m) (fun ys=>zab m ys=zL zK (1,m)) (fun _=>True) w:=fun l J Jx W hW hPc hJ hY h0 =>
 zmB d hd l Bs m hm0 hml J Jx hPc hJ hY W ((hW.block _ (Array.getElem?_eq_some_iff.1 hBs).1).trans hBs) h0
theorem zlr(s:Str)(w:World) :
  Calls Tryz.prog 218 #[.string ⟨s.toArray⟩] w fun e w'=>e=.returned (.func (.func 279) #[] #[.pointer (some ⟨w.heap.size,0,none⟩)])∧w'=w.alloc (.cells #[.string ⟨s.toArray⟩] 9):=by
 go_enter Tryz.func218,Tryz.ntmps218
 go_wp2
 go_ret
 exact⟨rfl,rfl⟩
theorem zrx{q:Rat}(h:zdo q):lim (q.num*(q.den:Int))=false:=by
 refine zkS ?_
 have h1:=zcU q.num.natAbs
 have h2:=zcU q.den
 have h3:=Nat.mul_lt_mul'' h1 h2
 rw[← Nat.pow_add]at h3
 have h4:10 ^ ((decDigits q.num.natAbs).length+(decDigits q.den).length)≤10 ^ 180:=Nat.pow_le_pow_right (by decide) (by have:=h.1;have:=h.2;omega)
 rw[Int.natAbs_mul,Int.natAbs_natCast]
 exact Nat.le_trans ((zm _ 180 (by decide)).2 (Nat.lt_of_lt_of_le h3 h4)) (by decide)
attribute [local go_sem] Oper.semAt_some
theorem zjm(q:Rat)(h:zdo q)(hp:0<q.num)(hls:17<(Lib.itoa q.num).length+(Lib.itoa (q.den:Int)).length)(w:World)(hE:Env w) :
  CallsIn Fence.wide 9 Tryz.prog 159 #[.string ⟨(ze q).toArray⟩] w fun e w'=>e=.returned (.tuple #[.string ⟨(ze (Rat.divInt (za0 (q.num.toNat*q.den)).1 q.den)).toArray⟩,.string ⟨(Lib.itoa ((za0 (q.num.toNat*q.den)).2:Int)).toArray⟩,.int .i64 0])∧Q w w':=by
 obtain⟨m,hm⟩:∃ m,q.num.toNat*q.den=m:=⟨_,rfl⟩
 have hmi:q.num*(q.den:Int)=(m:Int):=by rw[← hm,Int.natCast_mul];congr 1;omega
 have hml:=zrx h
 have hm0:0<m:=by rw[← hm];exact Nat.mul_pos (by omega) q.den_pos
 have HMU:=LH (fun w hw=>zf0 q.num (q.den:Int) (zx h.zam).1 (zx h.zam).2 hml w hw)
 rw[hmi]at HMU hml
 rw[hm]
 have hdl:=(zx h.zam).2
 have hd0:=q.den_pos
 have nz:=zhr hp
 have hlA:=zU _ (zx h.zam).1
 have hlB:=zU _ hdl
 have hlz:(17:Int)<((Lib.itoa q.num).length:Int)+((Lib.itoa (q.den:Int)).length:Int):=by omega
 refine callsIn_of_wp_marks Tryz.func159 rfl trivial ?_ rfl
 simp only[Tryz.ntmps159,List.size_toArray,List.length_cons,List.length_nil,Nat.reduceAdd,Nat.reduceSub,Array.replicate_succ,Array.replicate_zero,List.push_toArray,List.append_toArray,List.nil_append,List.cons_append]
 refine wpIn_wide.2 ?_
 go_wp2_with fail
 have B1:=((Blk.new w [.string ⟨(ze q).toArray⟩] 30).alloc (.cells #[.string ⟨(ze q).toArray⟩] 30))
 have B2:=Blk.new (w.alloc (.cells #[.string ⟨(ze q).toArray⟩] 30)) [.string ⟨(ze q).toArray⟩] 30
 have S2:=zb2.one B2
 have e2:(w.alloc (.cells #[.string ⟨(ze q).toArray⟩] 30)).heap.size=w.heap.size+1:=by simp
 rw[e2]at S2
 clear e2 B2
 refine(ze2 [q] [q] (by intro x hx;rw[List.mem_singleton]at hx;subst hx;exact h) _ _ _ (hE.q bt) (zb2.one B1) S2 (by simp) (by simp)).mono ?_
 have hc:(if ∀ x∈[q],0≤x.num then(0:Int)else 2)=0:=if_pos (by intro x hx;rw[List.mem_singleton]at hx;subst hx;omega)
 rw[hc]
 clear S2 B1 hc
 rintro e w1⟨rfl,hq1⟩
 have hQ1:Q w w1:=Q.trans (show Below w.heap.size w _ from bt) hq1
 clear hq1
 go_wp2_with fail
 refine cx (zgN q h.zam _ (hE.q hQ1)) fun w2 hq2=>?_
 have hQ2:Q w w2:=Q.trans hQ1 hq2
 clear hq2
 go_wp2_with fail
 refine cx (HMU.out _ (hE.q (hQ2.alloc hQ2.size _))) fun w3 hq3=>?_
 have hQ3:Q w w3:=Q.trans (hQ2.alloc hQ2.size _) hq3
 obtain⟨P,hP⟩:∃ P,w2.heap.size=P:=⟨_,rfl⟩
 have bP3:=(Blk.new w2 [.string ⟨(Lib.itoa q.num).toArray⟩,.string ⟨(Lib.itoa (q.den:Int)).toArray⟩] 273).keep hq3 (by simp)
 rw[hP]at bP3
 have hPs:=hQ2.size
 rw[hP]at hPs ⊢
 have hP3:=bP3.lt
 clear HMU hq3 hQ2
 go_wp2_with fail
 refine(zlr _ _).mono ?_
 rintro e w4⟨rfl,rfl⟩
 obtain⟨X,hX⟩:∃ X,w3.heap.size=X:=⟨_,rfl⟩
 obtain⟨W2,hW2⟩:∃ W2,((w3.alloc (.cells #[.string ⟨#[49]⟩] 9)).alloc (.cells #[.string ⟨(Lib.itoa (m:Int)).toArray⟩] 9)).alloc (.cells #[.string ⟨(Lib.itoa (m:Int)).toArray⟩] 9)=W2:=⟨_,rfl⟩
 have hq2:Q w3 W2:=by rw[← hW2];exact(((Below.refl _ w3).alloc (Nat.le_refl _) _).alloc (by simp) _).alloc (by simp;omega) _
 have bP2:=bP3.keep hq2 hP3
 have bC2:Boxed W2 X 9 (.string ⟨(Lib.itoa (1:Int)).toArray⟩):=by
  have:=((Boxed.new w3 9 (.string ⟨#[49]⟩)).alloc (.cells #[.string ⟨(Lib.itoa (m:Int)).toArray⟩] 9)).alloc (.cells #[.string ⟨(Lib.itoa (m:Int)).toArray⟩] 9)
  rw[hX,hW2]at this;rw[zai];exact this
 have bL2:zbj W2 (X+1) m:=by
  have:=(Boxed.new (w3.alloc (.cells #[.string ⟨#[49]⟩] 9)) 9 (.string ⟨(Lib.itoa (m:Int)).toArray⟩)).alloc (.cells #[.string ⟨(Lib.itoa (m:Int)).toArray⟩] 9)
  rw[World.size_alloc,hX,hW2]at this;exact this
 have bS2:zbj W2 (X+2) m:=by
  have:=Boxed.new ((w3.alloc (.cells #[.string ⟨#[49]⟩] 9)).alloc (.cells #[.string ⟨(Lib.itoa (m:Int)).toArray⟩] 9)) 9 (.string ⟨(Lib.itoa (m:Int)).toArray⟩)
  rw[World.size_alloc,World.size_alloc,hX,hW2]at this;exact this
 have hs2:W2.heap.size=X+3:=by rw[← hW2];simp[hX]
 have hQ2:Q w W2:=Q.trans hQ3 hq2
 have hwX:w.heap.size≤X:=by rw[← hX];exact hQ3.size
 have hPX:P<X:=by omega
 rw[World.size_alloc,World.size_alloc,hX,hW2]
 have HI0:Hid (StripInv m (zab m []).1 (zab m []).2):=LH ⟨hm0,Nat.one_pos,by simp[zab]⟩
 clear hW2 hq2 bP3 hP3 hX
 go_wp2_with fail
 refine(wpIn_wide (n:=9)).1 ?_
 refine ze7 (m:=9) (gf:=279) (lb:=#[.pointer (some ⟨X+2,0,none⟩)]) (by omega) rfl (enters_of Tryz.func279 (by kernel_rfl) rfl)
  (zlg (X+2) m hm0 hml W2 8 (by omega) bS2) (by simp;omega) (fun _=>rfl)
  (fun pre W=>Blk W P [.string ⟨(Lib.itoa q.num).toArray⟩,.string ⟨(Lib.itoa (q.den:Int)).toArray⟩] 273∧zbj W X (zab m pre).1∧zbj W (X+1) (zab m pre).2∧Q w W∧Hid (StripInv m (zab m pre).1 (zab m pre).2))
  (fun _ _ _=>False) (fun pre W h=>hE.q h.2.2.2.1)
  (fun pre W W' h k hb=>⟨h.1.kc k,zu h.2.1 k,zu h.2.2.1 k,Below.trans h.2.2.2.1 (hb.mono hQ2.size),h.2.2.2.2⟩)
  ⟨fun pre W W' h hq=>⟨h.1.keep hq h.1.lt,(hq.block _ h.2.1.lt).trans h.2.1,(hq.block _ h.2.2.1.lt).trans h.2.2.1,Q.trans h.2.2.2.1 hq,h.2.2.2.2⟩,
   fun pre W b v hb h=>by
    obtain rfl:b=X+2:=by simpa using hb
    exact⟨h.1.setOther (by omega) 0 v,Blk.setOther (cs:=[_]) h.2.1 (by omega) 0 v,Blk.setOther (cs:=[_]) h.2.2.1 (by omega) 0 v,h.2.2.2.1.setCell (p:=⟨X+2,0,none⟩) (by simp;omega) _,h.2.2.2.2⟩⟩
  (fun _ _ _ _ h _ _=>h)
  ⟨bP2,bC2,bL2,hQ2,HI0⟩
  ?a1 ?assign ?body ?done ?stop
 case assign =>
  intro l x W K hK
  unfold zrI
  gi_wp2
  exact hK
 case stop =>
  rintro D c pre W _ _ h _
  exact h.elim
 case body =>
  rintro l pre⟨p,lft⟩ W ⟨hbP,hbC,hbL,hQ,HI⟩ ⟨hp2,hp97,hdv,hlf⟩
  obtain⟨⟨c,b⟩,hcb⟩:∃ cb,zab m pre=cb:=⟨_,rfl⟩
  have hst:zab m (pre++[(p,lft)])=(c*p,lft):=by rw[zhg,hcb]
  have HST:=LH hst
  rw[hcb]at hbC hbL HI hdv hlf
  simp only at hbC hbL HI hdv hlf hp2 hp97
  subst hlf
  have HN:=LH (HI.out.next hp2 hdv)
  have hcl:lim (c:Int)=false:=zcj hml (by have:=HI.out.bounds.2;omega)
  have hcp:lim ((c:Int)*(p:Int))=false:=zcj hml (by rw[← Int.natCast_mul];have:=HN.out.bounds.2;omega)
  have HMU:=LH (zf0 (c:Int) (p:Int) hcl (zkd ⟨hp2,hp97⟩).1 hcp W (hE.q hQ))
  rw[← Int.natCast_mul]at HMU
  generalize b / (p*p)=b2 at *
  generalize c*p=c2 at *
  have hcc:=hbC.cell
  clear hdv hcb hcp hst
  rw[hs2]
  gi_wp2
  refine⟨trivial,?_⟩
  with_reducible refine CallsIn.mono (CallsIn.inRound l (callsIn_wide.2 HMU.out)) ?_
  rintro e w5⟨rfl,hq5⟩
  have kP:=hbP.keep hq5 hbP.lt
  have kC:zbj w5 X c:=(hq5.block _ hbC.lt).trans hbC
  have kL:zbj w5 (X+1) b:=(hq5.block _ hbL.lt).trans hbL
  have hQ5:=Q.trans hQ hq5
  have x0:=kC.cell
  have x1:=kC.frozen
  have kC2:zbj (w5.setCell ⟨X,0,none⟩ (.string ⟨(Lib.itoa (c2:Int)).toArray⟩)) X c2:=kC.set _
  have kL2:zbj (w5.setCell ⟨X,0,none⟩ (.string ⟨(Lib.itoa (c2:Int)).toArray⟩)) (X+1) b:=Blk.setOther (cs:=[_]) kL (by omega) 0 _
  have x2:=kL2.cell
  have x3:=kL2.frozen
  clear hcc HMU
  gi_wp2
  refine⟨((KeepsOthers.of_grownBy (zas hq5 none) (fun j o e=>by cases e)).from _).trans (((KeepsOthers.setCell _ _ _).from _).trans ((KeepsOthers.setCell _ _ _).from _)),
   (zI.q hq5).trans ((zI.set _ (by simp) _ _).trans (zI.set _ (by simp) _ _)),?_⟩
  refine⟨(kP.setOther (by omega) 0 _).setOther (by omega) 0 _,?_,?_,(hQ5.setCell (p:=⟨X,0,none⟩) hwX _).setCell (p:=⟨X+1,0,none⟩) (by simp;omega) _,?_⟩
  ·rw[HST.out];exact Blk.setOther (cs:=[_]) kC2 (by omega) 0 _
  ·rw[HST.out];exact kL2.set _
  ·rw[HST.out];exact HN
 case done =>
  rintro D ys W hD hys⟨hbP,hbC,hbL,hQ,HI⟩ hK
  have hnm:za0 m=if zw (zab m ys).2*zw (zab m ys).2=(zab m ys).2 then((zab m ys).1*zw (zab m ys).2,1)else zab m ys:=by rw[hys];rfl
  clear hys
  generalize zab m ys=cb at *
  obtain⟨c,b⟩:=cb
  simp only at hbC hbL HI hnm
  have hcl:lim (c:Int)=false:=zcj hml (by have:=HI.out.bounds.2;omega)
  have hbl:lim (b:Int)=false:=zcj hml (by have:=HI.out.bounds.1;omega)
  have HEX:=LH (zgP b hbl W (hE.q hQ))
  have hbc:=hbL.cell
  have hsq:=ziO b
  by_cases hx:zw b*zw b=b
  ·have HNM:Hid (za0 m=(c*zw b,1)):=LH (by rw[hnm,if_pos hx])
   rw[decide_eq_true hx]at HEX
   have hrl:lim (zw b:Int)=false:=zcj hbl (by have:=zgm b;omega)
   have hcm:c*zw b≤m:=by
    have h1:c*zw b*(c*zw b)=m:=by
     rw[← HI.out.eq];conv=>rhs;rw[← hx]
     grind
    rcases Nat.eq_zero_or_pos (c*zw b)with h0 | h0
    ·omega
    ·have h2:c*zw b*1≤c*zw b*(c*zw b):=Nat.mul_le_mul_left _ h0
     omega
   have hcr:lim ((c:Int)*(zw b:Int))=false:=zcj hml (by rw[← Int.natCast_mul];omega)
   have HMU:=LH (fun w hw=>zf0 (c:Int) (zw b:Int) hcl hrl hcr w hw)
   rw[← Int.natCast_mul]at HMU hcr
   clear hnm hx hsq hcm
   generalize zw b=r at *
   generalize c*r=c2 at *
   go_wp2_with fail
   refine HEX.out.mono ?_
   rintro e w5⟨rfl,hq5⟩
   have kP:=hbP.keep hq5 hbP.lt
   have kC:zbj w5 X c:=(hq5.block _ hbC.lt).trans hbC
   have kL:zbj w5 (X+1) b:=(hq5.block _ hbL.lt).trans hbL
   have kD:=(hq5.block _ (Array.getElem?_eq_some_iff.1 hK).1).trans hK
   have hQ5:=Q.trans hQ hq5
   have x0:=kC.cell
   clear HEX hbc
   go_wp2_with fail
   refine cx (HMU.out _ (hE.q hQ5)) fun w6 hq6=>?_
   have jP:=kP.keep hq6 kP.lt
   have jC:zbj w6 X c:=(hq6.block _ kC.lt).trans kC
   have jL:zbj w6 (X+1) b:=(hq6.block _ kL.lt).trans kL
   have jD:=(hq6.block _ (Array.getElem?_eq_some_iff.1 kD).1).trans kD
   have hQ6:=Q.trans hQ5 hq6
   have y0:=jC.cell
   have y1:=jC.frozen
   have jC2:zbj (w6.setCell ⟨X,0,none⟩ (.string ⟨(Lib.itoa (c2:Int)).toArray⟩)) X c2:=jC.set _
   have jL2:zbj (w6.setCell ⟨X,0,none⟩ (.string ⟨(Lib.itoa (c2:Int)).toArray⟩)) (X+1) b:=Blk.setOther (cs:=[_]) jL (by omega) 0 _
   have y2:=jL2.cell
   have y3:=jL2.frozen
   obtain⟨W7,hW7⟩:∃ W7,(w6.setCell ⟨X,0,none⟩ (.string ⟨(Lib.itoa (c2:Int)).toArray⟩)).setCell ⟨X+1,0,none⟩ (.string ⟨#[49]⟩)=W7:=⟨_,rfl⟩
   have lP:Blk W7 P [.string ⟨(Lib.itoa q.num).toArray⟩,.string ⟨(Lib.itoa (q.den:Int)).toArray⟩] 273:=by rw[← hW7];exact(jP.setOther (by omega) 0 _).setOther (by omega) 0 _
   have lC:zbj W7 X c2:=by rw[← hW7];exact Blk.setOther (cs:=[_]) jC2 (by omega) 0 _
   have lL:zbj W7 (X+1) 1:=by
    rw[← hW7];have:=jL2.set (.string ⟨#[49]⟩)
    unfold zbj;rw[show ((1:Nat):Int)=1 from rfl,zai];exact this
   have lD:W7.heap[D]? = some (.deferred (some [])):=by
    rw[← hW7];exact(KeepsOthers.setCell _ _ _).same D _ ((KeepsOthers.setCell _ _ _).same D _ jD rfl) rfl
   have hQ7:Q w W7:=by rw[← hW7];exact(hQ6.setCell (p:=⟨X,0,none⟩) hwX _).setCell (p:=⟨X+1,0,none⟩) (by simp;omega) _
   clear x0 HMU
   go_wp2_with fail
   have HF0:=fun w hw=>zdX (c2:Int) (q.den:Int) hcr hdl (by omega) w hw
   obtain⟨RR,hRR⟩:∃ RR,ze (Rat.divInt (c2:Int) (q.den:Int))=RR:=⟨_,rfl⟩
   rw[hRR]at HF0
   have HF:=LH HF0
   have HRR:=LH hRR
   clear HF0 hRR
   have g0:W7.drew.cell? ⟨X,0,none⟩=some (.string ⟨(Lib.itoa (c2:Int)).toArray⟩):=lC.cell
   have g1:W7.drew.cell? ⟨P,1,none⟩=some (.string ⟨(Lib.itoa (q.den:Int)).toArray⟩):=lP.cell 1
   have g2:W7.drew.cell? ⟨X+1,0,none⟩=some (.string ⟨(Lib.itoa (1:Int)).toArray⟩):=lL.cell
   refine ziW ?_
   refine zn 8 (by kernel_rfl) (by kernel_rfl) rfl ?_
   refine svq 0 rfl (by intro w' hq;have hc0:=za hq g0;go_simp;try with_reducible rfl) ?_
   refine svp 1 ?_
   refine svq 2 rfl (by intro w' hq;have hc0:=za hq g1;go_simp;try with_reducible rfl) ?_
   refine zk (i:=3) (v:=_) rfl rfl (by kernel_rfl) (by kernel_rfl) (fun _ _ _ h=>h) (by rfl) ?_ (fun w' hq=>HF.out w' (hE.q (Q.trans hQ7 (Q.trans (Below.drew (Q.refl _)) hq)))) ?_
   ·(intro w' hq;go_simp;try with_reducible rfl)
   simp only[Act.put,zs1,zs2,zs3]
   refine svq 4 rfl (by intro w' hq;have hc0:=za hq g2;go_simp;try with_reducible rfl) ?_
   refine svp 5 ?_
   refine svp 6 ?_
   refine svp 7 ?_
   refine zh (by kernel_rfl) (fun w9 hq9=>?_)
   simp only[List.drop_succ_cons,List.drop_nil]
   have hq09:Q W7 w9:=Q.trans (Below.drew (Q.refl _)) hq9
   have zD:w9.heap[D]? = some (.deferred (some [])):=(hq09.block _ (Array.getElem?_eq_some_iff.1 lD).1).trans lD
   have hQ9:=Q.trans hQ7 hq09
   clear g0 g1 g2 HF hq9 hq09
   go_wp2
   try simp only[zbC]
   go_wp2
   refine⟨by simp,.inl ⟨_,_,rfl,run_takeDeferred zD,?_⟩⟩
   refine⟨_,results_tmp3 rfl _ _ _,?_,Below.trans hQ9 (zaQ (by omega) zD _)⟩
   rw[HNM.out,← HRR.out];rfl
  ·have HNM:Hid (za0 m=(c,b)):=LH (by rw[hnm,if_neg hx])
   rw[decide_eq_false hx]at HEX
   clear hnm hx hsq
   generalize zw b=r at *
   go_wp2_with fail
   refine HEX.out.mono ?_
   rintro e w5⟨rfl,hq5⟩
   have kP:=hbP.keep hq5 hbP.lt
   have kC:zbj w5 X c:=(hq5.block _ hbC.lt).trans hbC
   have kL:zbj w5 (X+1) b:=(hq5.block _ hbL.lt).trans hbL
   have kD:=(hq5.block _ (Array.getElem?_eq_some_iff.1 hK).1).trans hK
   have hQ5:=Q.trans hQ hq5
   clear HEX hbc
   go_wp2_with fail
   have HF0:=fun w hw=>zdX (c:Int) (q.den:Int) hcl hdl (by omega) w hw
   obtain⟨RR,hRR⟩:∃ RR,ze (Rat.divInt (c:Int) (q.den:Int))=RR:=⟨_,rfl⟩
   rw[hRR]at HF0
   have HF:=LH HF0
   have HRR:=LH hRR
   clear HF0 hRR
   have g0:w5.drew.cell? ⟨X,0,none⟩=some (.string ⟨(Lib.itoa (c:Int)).toArray⟩):=kC.cell
   have g1:w5.drew.cell? ⟨P,1,none⟩=some (.string ⟨(Lib.itoa (q.den:Int)).toArray⟩):=kP.cell 1
   have g2:w5.drew.cell? ⟨X+1,0,none⟩=some (.string ⟨(Lib.itoa (b:Int)).toArray⟩):=kL.cell
   refine ziW ?_
   refine zn 8 (by kernel_rfl) (by kernel_rfl) rfl ?_
   refine svq 0 rfl (by intro w' hq;have hc0:=za hq g0;go_simp;try with_reducible rfl) ?_
   refine svp 1 ?_
   refine svq 2 rfl (by intro w' hq;have hc0:=za hq g1;go_simp;try with_reducible rfl) ?_
   refine zk (i:=3) (v:=_) rfl rfl (by kernel_rfl) (by kernel_rfl) (fun _ _ _ h=>h) (by rfl) ?_ (fun w' hq=>HF.out w' (hE.q (Q.trans hQ5 (Q.trans (Below.drew (Q.refl _)) hq)))) ?_
   ·(intro w' hq;go_simp;try with_reducible rfl)
   simp only[Act.put,zs1,zs2,zs3]
   refine svq 4 rfl (by intro w' hq;have hc0:=za hq g2;go_simp;try with_reducible rfl) ?_
   refine svp 5 ?_
   refine svp 6 ?_
   refine svp 7 ?_
   refine zh (by kernel_rfl) (fun w9 hq9=>?_)
   simp only[List.drop_succ_cons,List.drop_nil]
   have hq09:Q w5 w9:=Q.trans (Below.drew (Q.refl _)) hq9
   have zD:w9.heap[D]? = some (.deferred (some [])):=(hq09.block _ (Array.getElem?_eq_some_iff.1 kD).1).trans kD
   have hQ9:=Q.trans hQ5 hq09
   clear g0 g1 g2 HF hq9 hq09
   go_wp2
   try simp only[zbC]
   go_wp2
   refine⟨by simp,.inl ⟨_,_,rfl,run_takeDeferred zD,?_⟩⟩
   refine⟨_,results_tmp3 rfl _ _ _,?_,Below.trans hQ9 (zaQ (by omega) zD _)⟩
   rw[HNM.out,← HRR.out];rfl
theorem zfr(q:Rat)(h:zdo q)(hp:0<q.num)(w:World)(hE:Env w) :
  CR 159 #[.string ⟨(ze q).toArray⟩] w (.tuple #[.string ⟨(ze (Rat.divInt (za0 (q.num.toNat*q.den)).1 q.den)).toArray⟩,.string ⟨(Lib.itoa ((za0 (q.num.toNat*q.den)).2:Int)).toArray⟩,.int .i64 0]):=by
 by_cases hl:(Lib.itoa q.num).length+(Lib.itoa (q.den:Int)).length≤17
 ·exact zgQ q h hp hl w hE
 ·exact callsIn_wide.1 (zjm q h hp (by omega) w hE)
theorem zhE(w:World)(hE:Env w) :
  CR 159 #[.string ⟨(ze 0).toArray⟩] w (.tuple #[.string ⟨#[48]⟩,.string ⟨#[49]⟩,.int .i64 0]):=by
 have h:zdo 0:=zR.root90 ⟨by decide,by decide⟩
 have h0:=zgN 0 h.zam
 rw[show ((0:Rat)).num=0 from rfl,show (((0:Rat)).den:Int)=1 from rfl,zae,zai]at h0
 have HO:=LH h0
 have hck:=fun v1 v2 w (hw:Env w) s1 s2=>ze2 [0] [0] (by intro x hx;rw[List.mem_singleton]at hx;subst hx;exact h) v1 v2 w hw s1 s2 (by simp) (by simp)
 have hc:(if ∀ x∈[(0:Rat)],0≤x.num then(0:Int)else 2)=0:=if_pos (by intro x hx;rw[List.mem_singleton]at hx;subst hx;decide)
 rw[hc]at hck
 have HC:=LH hck
 clear hck hc h0
 rw[List.map_singleton]at HC
 generalize ze 0=Z at *
 go_enter Tryz.func159,Tryz.ntmps159
 go_wp2_with fail
 have B1:=((Blk.new w [.string ⟨Z.toArray⟩] 30).alloc (.cells #[.string ⟨Z.toArray⟩] 30))
 have B2:=Blk.new (w.alloc (.cells #[.string ⟨Z.toArray⟩] 30)) [.string ⟨Z.toArray⟩] 30
 have S2:=zb2.one B2
 have e2:(w.alloc (.cells #[.string ⟨Z.toArray⟩] 30)).heap.size=w.heap.size+1:=by simp
 rw[e2]at S2
 clear e2 B2
 refine(HC.out _ _ _ (hE.q bt) (zb2.one B1) S2).mono ?_
 clear S2 B1
 rintro e w1⟨rfl,hq1⟩
 have hQ1:Q w w1:=Q.trans (show Below w.heap.size w _ from bt) hq1
 clear hq1
 go_wp2_with fail
 refine cx (HO.out _ (hE.q hQ1)) fun w2 hq2=>?_
 have hQ2:Q w w2:=Q.trans hQ1 hq2
 go_wp2
 go_ret3
 exact⟨rfl,hQ2.alloc hQ2.size _⟩
end
section
open Go.RowKit Kp
theorem zaS(q:Rat)(h:zam q=false)(w:World)(hE:Env w) :
  CR 99 #[.string ⟨(ze q).toArray⟩] w (.int .i64 (za6 q)):=by
 go_enter Tryz.func99,Tryz.ntmps99
 go_wp2_with fail
 refine cx (zbJ q h _ hE) fun w1 hq1=>?_
 go_wp2_with fail
 refine(zh4 _ _).mono ?_
 rintro e w2⟨rfl,rfl⟩
 go_wp2_with fail
 refine(zh4 _ _).mono ?_
 rintro e w3⟨rfl,rfl⟩
 go_wp2
 go_ret
 exact⟨rfl,hq1⟩
theorem zA(q:Rat)(h:zam q=false)(w:World)(hE:Env w) :
  CR 95 #[.string ⟨(ze q).toArray⟩] w (.int .i64 0):=by
 have:=zdu (ze q) (by have:=zaA h;omega) w hE
 rw[show zcg (ze q)=0 by rw[zb5,h];rfl]at this
 exact this
def Bd(n:Nat)(q:Rat):Prop:=q.num.natAbs<10 ^ n∧q.den<10 ^ n
theorem zbw{z:Int}{n:Nat}(h:z.natAbs<10 ^ n)(hn:n≤300):lim z=false:=by
 refine zkS ?_
 obtain⟨e,he⟩:∃ e:Nat,e=300:=⟨_,rfl⟩
 rw[← he]at hn ⊢
 exact(zm _ e (by omega)).2 (Nat.lt_of_lt_of_le h (Nat.pow_le_pow_right (by decide) hn))
theorem Bd.zam{n:Nat}{q:Rat}(h:Bd n q)(hn:n≤300):zam q=false:=by
 unfold Kp.zam
 rw[zbw h.1 hn,zbw (z:=(q.den:Int)) (by rw[Int.natAbs_natCast];exact h.2) hn];rfl
theorem Bd.mono{n m:Nat}{q:Rat}(h:Bd n q)(hm:n≤m):Bd m q :=
 ⟨Nat.lt_of_lt_of_le h.1 (Nat.pow_le_pow_right (by decide) hm),Nat.lt_of_lt_of_le h.2 (Nat.pow_le_pow_right (by decide) hm)⟩
theorem Bd.root90{n:Nat}{q:Rat}(h:Bd n q)(hn:n≤90):zdo q:=by
 have h':=h.mono hn
 exact⟨(zm _ 90 (by decide)).2 h'.1,(zm _ 90 (by decide)).2 h'.2⟩
theorem zc8{n:Nat}{z:Int}{k:Nat}(hk:0<k)(h1:z.natAbs<10 ^ n)(h2:k<10 ^ n):Bd n (Rat.divInt z k):=by
 obtain⟨e1,e2⟩:=zcp z k hk
 refine⟨?_,?_⟩
 ·rw[e1]
  have:=zfo z (Nat.gcd z.natAbs k) (B:=(z.natAbs:Int)) (Int.le_refl _)
  omega
 ·have h3:(k:Int) / (Nat.gcd z.natAbs k:Int)≤k:=Int.ediv_le_self _ (by omega)
  omega
theorem zcS{a b:Int}{m n:Nat}(ha:a.natAbs<10 ^ m)(hb:b.natAbs<10 ^ n):(a*b).natAbs<10 ^ (m+n):=by
 rw[Int.natAbs_mul,Nat.pow_add];exact Nat.mul_lt_mul'' ha hb
theorem zcr{x y:Rat}{m n:Nat}(hx:Bd m x)(hy:Bd n y):x.den*y.den<10 ^ (m+n):=by
 rw[Nat.pow_add];exact Nat.mul_lt_mul'' hx.2 hy.2
theorem Bd.mul{m n:Nat}{x y:Rat}(hx:Bd m x)(hy:Bd n y):Bd (m+n) (x*y):=by
 rw[← Rat.mul_is]
 have:=zc8 (n:=m+n) (z:=x.num*y.num) (k:=x.den*y.den) (Nat.mul_pos x.den_pos y.den_pos) (zcS hx.1 hy.1) (zcr hx hy)
 rwa[Int.natCast_mul]at this
theorem zbF{m n:Nat}{x y:Rat}(hx:Bd m x)(hy:Bd n y):(x.num*(y.den:Int)).natAbs<10 ^ (m+n) :=
 zcS hx.1 (by rw[Int.natAbs_natCast];exact hy.2)
theorem sum_lt{m n:Nat}{x y:Rat}(hx:Bd m x)(hy:Bd n y):(x.num*(y.den:Int)+y.num*(x.den:Int)).natAbs<10 ^ (m+n+1)∧(x.num*(y.den:Int) - y.num*(x.den:Int)).natAbs<10 ^ (m+n+1):=by
 have h1:=zbF hx hy
 have h2:=zbF hy hx
 rw[Nat.add_comm n m]at h2
 rw[Nat.pow_succ]
 generalize 10 ^ (m+n)=P at *
 omega
theorem Bd.add{m n:Nat}{x y:Rat}(hx:Bd m x)(hy:Bd n y):Bd (m+n+1) (x+y):=by
 rw[← Rat.add_is]
 have:=zc8 (n:=m+n+1) (z:=x.num*y.den+y.num*x.den) (k:=x.den*y.den) (Nat.mul_pos x.den_pos y.den_pos) (sum_lt hx hy).1 (Nat.lt_of_lt_of_le (zcr hx hy) (Nat.pow_le_pow_right (by decide) (by omega)))
 rwa[Int.natCast_mul]at this
theorem zaZ{m n:Nat}(x y:Rat)(hx:Bd m x)(hy:Bd n y)(h:m+n≤300)(w:World)(hE:Env w) :
  CR 43 #[.string ⟨(ze x).toArray⟩,.string ⟨(ze y).toArray⟩] w (.tuple #[.string ⟨(ze (x*y)).toArray⟩,.int .i64 0]) :=
 zhl x y (hx.zam (by omega)) (hy.zam (by omega)) (zbw (zcS hx.1 hy.1) h) (zbw (n:=m+n) (by rw[← Int.natCast_mul,Int.natAbs_natCast];exact zcr hx hy) h) w hE
theorem zc2{m n:Nat}(x y:Rat)(hx:Bd m x)(hy:Bd n y)(h:m+n+1≤300)(w:World)(hE:Env w) :
  CR 212 #[.string ⟨(ze x).toArray⟩,.string ⟨(ze y).toArray⟩] w (.tuple #[.string ⟨(ze (x+y)).toArray⟩,.int .i64 0]) :=
 zhn x y (hx.zam (by omega)) (hy.zam (by omega)) (zbw (zbF hx hy) (by omega)) (zbw (zbF hy hx) (by omega)) (zbw (sum_lt hx hy).1 h) (zbw (n:=m+n) (by rw[← Int.natCast_mul,Int.natAbs_natCast];exact zcr hx hy) (by omega)) w hE
theorem zbd{m n:Nat}(x y:Rat)(hx:Bd m x)(hy:Bd n y)(h:m+n+1≤300)(w:World)(hE:Env w) :
  CR 42 #[.string ⟨(ze x).toArray⟩,.string ⟨(ze y).toArray⟩] w (.tuple #[.string ⟨(ze (x - y)).toArray⟩,.int .i64 0]) :=
 zlB x y (hx.zam (by omega)) (hy.zam (by omega)) (zbw (zbF hx hy) (by omega)) (zbw (zbF hy hx) (by omega)) (zbw (sum_lt hx hy).2 h) (zbw (n:=m+n) (by rw[← Int.natCast_mul,Int.natAbs_natCast];exact zcr hx hy) (by omega)) w hE
theorem zc1{m n:Nat}(x y:Rat)(hx:Bd m x)(hy:Bd n y)(hy0:y.num≠0)(h:m+n≤300)(w:World)(hE:Env w) :
  CR 48 #[.string ⟨(ze x).toArray⟩,.string ⟨(ze y).toArray⟩] w (.tuple #[.string ⟨(ze (x / y)).toArray⟩,.int .i64 0]) :=
 zhm x y (hx.zam (by omega)) (hy.zam (by omega)) hy0 (zbw (zbF hx hy) h) (zbw (zbF hy hx) (by omega)) w hE
theorem zj4:Bd 1 1:=⟨by decide,by decide⟩
def aOf(r:Rat):Rat:=Rat.divInt (za0 (r.num.toNat*r.den)).1 r.den
def lOf(r:Rat):Rat:=((za0 (r.num.toNat*r.den)).2:Rat)
theorem zgf:za0 1=(1,1):=by simp[za0,zL,zK,zbc,zw]
theorem ztg:aOf 1=1:=by
 unfold aOf;rw[show ((1:Rat)).num.toNat*(1:Rat).den=1 from rfl,zgf];rfl
theorem znM{m:Nat}(hm:0<m):(za0 m).1≤m∧(za0 m).2≤m:=by
 obtain⟨h1,h2,h3,h4⟩:=zgV hm
 exact⟨(StripInv.bounds ⟨h1,h2,h3⟩).2,h4⟩
theorem zsE{n:Nat}{r:Rat}(hr:Bd n r)(hp:0<r.num):0<r.num.toNat*r.den∧r.num.toNat*r.den<10 ^ (n+n):=by
 refine⟨Nat.mul_pos (by omega) r.den_pos,?_⟩
 rw[Nat.pow_add]
 exact Nat.mul_lt_mul'' (by have:=hr.1;omega) hr.2
theorem zsl{n:Nat}{r:Rat}(hr:Bd n r)(hp:0<r.num):Bd (n+n) (aOf r):=by
 obtain⟨h1,h2⟩:=zsE hr hp
 have h3:=znM h1
 exact zc8 r.den_pos (by rw[Int.natAbs_natCast];omega) (Nat.lt_of_lt_of_le hr.2 (Nat.pow_le_pow_right (by decide) (by omega)))
theorem zsb{n:Nat}{r:Rat}(hr:Bd n r)(hp:0<r.num)(hn:0<n):Bd (n+n) (lOf r):=by
 obtain⟨h1,h2⟩:=zsE hr hp
 have h3:=znM h1
 unfold lOf
 refine⟨by rw[Rat.num_natCast,Int.natAbs_natCast];omega,by rw[Rat.den_natCast];exact Nat.one_lt_pow (by omega) (by decide)⟩
theorem zhR{n:Nat}{q:Rat}(h:Bd n q)(hn:1≤n):za6 q≤n:=by
 have h1:(zo (Lib.itoa q.num)).length≤n:=by rw[zav];exact(zm _ n hn).2 h.1
 have h2:(zo (Lib.itoa (q.den:Int))).length≤n:=by rw[zav,Int.natAbs_natCast];exact(zm _ n hn).2 h.2
 unfold za6;omega
theorem ztO{n:Nat}{r:Rat}(hr:Bd n r)(hp:0<r.num):aOf r≠0:=by
 obtain⟨h1,-⟩:=zsE hr hp
 have h3:=(zgV h1).2.1
 unfold aOf
 intro e
 obtain⟨e1,-⟩:=zcp ((za0 (r.num.toNat*r.den)).1:Int) r.den r.den_pos
 rw[e,Int.natAbs_natCast]at e1
 have h4:=Nat.gcd_dvd_left (za0 (r.num.toNat*r.den)).1 r.den
 have h5:=Nat.le_of_dvd h3 h4
 have h6:0<Nat.gcd (za0 (r.num.toNat*r.den)).1 r.den:=Nat.gcd_pos_of_pos_left _ h3
 have h7:=Nat.div_pos h5 h6
 rw[Int.tdiv_eq_ediv_of_nonneg (by omega),← Int.natCast_ediv,show ((0:Rat)).num=0 from rfl]at e1
 omega
theorem zfi{z:Int}{k:Nat}(hz:0<z)(hk:0<k):0<(Rat.divInt z k).num:=by
 obtain⟨m,rfl⟩:=Int.eq_ofNat_of_zero_le (show 0≤z by omega)
 obtain⟨e1,-⟩:=zcp (m:Int) k hk
 rw[Int.natAbs_natCast]at e1
 have h4:=Nat.gcd_dvd_left m k
 have h5:=Nat.le_of_dvd (by omega) h4
 have h6:0<Nat.gcd m k:=Nat.gcd_pos_of_pos_left _ (by omega)
 have h7:=Nat.div_pos h5 h6
 rw[Int.tdiv_eq_ediv_of_nonneg (by omega),← Int.natCast_ediv]at e1
 omega
theorem ztz(s:Rat)(hs:0<s.num):1 / s=Rat.divInt (s.den:Int) (s.num.toNat:Int):=by
 rw[← Rat.div_is,show ((1:Rat)).num=1 from rfl,show (((1:Rat)).den:Int)=1 from rfl,Int.one_mul,Int.mul_one]
 congr 1;omega
end
end Go.Proofs.YtapnkgdnflofbaaGreatDoor
namespace Kp
theorem zoj(p:Nat):∀ (m c:Nat),(zbc p c m).2 ∣ m:=by
 intro m
 induction m using Nat.strongRecOn with
 | _ m ih =>
  intro c
  by_cases h:2≤p∧0<m∧m % (p*p)=0
  ·rw[ze0 h.1 h.2.1 h.2.2]
   have h4:2*2≤p*p:=Nat.mul_le_mul h.1 h.1
   have hlt:m / (p*p)<m:=Nat.div_lt_self h.2.1 (by omega)
   exact Nat.dvd_trans (ih _ hlt _) (Nat.div_dvd_of_dvd (Nat.dvd_of_mod_eq_zero h.2.2))
  ·rw[zbc,dif_neg h];exact Nat.dvd_refl _
theorem zhf:∀ (l:List Nat) (x:Nat × Nat),(zL l x).2 ∣ x.2
 | [],_=>Nat.dvd_refl _
 | p::r,x=>Nat.dvd_trans (zhf r (zbc p x.1 x.2)) (zoj p x.2 x.1)
theorem zfT:∀ (l:List Nat),(∀ p∈l,2≤p)→∀ (c m:Nat),0<m→0<c→∀ p∈l,(zL l (c,m)).2 % (p*p)≠0
 | [],_,_,_,_,_,_,hp=>by cases hp
 | q::r,h,c,m,hm,hc,p,hp=>by
  obtain⟨a,b,_,e,_⟩:=zh5 q (h q (by simp)) m c hm hc
  rcases List.mem_cons.1 hp with rfl | hp
  ·intro hx
   have h1:=zhf r (zbc p c m)
   exact e (Nat.mod_eq_zero_of_dvd (Nat.dvd_trans (Nat.dvd_of_mod_eq_zero hx) h1))
  ·exact zfT r (fun x hx=>h x (by simp[hx])) (zbc q c m).1 (zbc q c m).2 a b p hp
theorem zh6:∀ (l:List Nat) (c m:Nat),(∀ p∈l,m % (p*p)≠0)→zL l (c,m)=(c,m)
 | [],_,_,_=>rfl
 | q::r,c,m,h=>by
  show zL r (zbc q c m)=_
  rw[zfS (h q (by simp))]
  exact zh6 r c m (fun p hp=>h p (by simp[hp]))
theorem zoT{m:Nat}(hm:0<m)(h1:za0 1=(1,1)):za0 (za0 m).2=(1,(za0 m).2):=by
 have hf:=zfT zK zdL 1 m hm (by decide)
 by_cases hx:zw (zL zK (1,m)).2*zw (zL zK (1,m)).2=(zL zK (1,m)).2
 ·have:(za0 m).2=1:=by unfold za0;rw[if_pos hx]
  rw[this];exact h1
 ·have e:(za0 m).2=(zL zK (1,m)).2:=by unfold za0;rw[if_neg hx]
  rw[e]
  generalize (zL zK (1,m)).2=b at *
  have h2:=zh6 zK 1 b hf
  unfold za0
  rw[h2]
  exact if_neg hx
end Kp
namespace Go.Proofs.YtapnkgdnflofbaaGreatDoor
open Go.RowKit Kp
open Go.Lib (decDigits)
def zgE(l:Nat):Prop:=0<l∧za0 l=(1,l)
theorem znP{r:Rat}(hp:0<r.num):zgE (za0 (r.num.toNat*r.den)).2:=by
 have hm:0<r.num.toNat*r.den:=Nat.mul_pos (by omega) r.den_pos
 exact⟨(zgV hm).1,zoT hm zgf⟩
def leftOf(s:Rat):Nat:=(za0 (s.num.toNat*s.den)).2
theorem zrA(s:Rat):lOf s=(leftOf s:Rat):=rfl
end Go.Proofs.YtapnkgdnflofbaaGreatDoor
