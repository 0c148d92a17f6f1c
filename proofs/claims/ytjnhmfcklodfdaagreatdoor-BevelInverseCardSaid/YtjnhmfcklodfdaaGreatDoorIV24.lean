/-
  Walks of package front: the front of a side.; Walks of package front: the fronts of any plan.; Walks of package front: Check, start, Distance.; Walks of package front: the plane of a front; of package bevel: a face.; Walks of package joint: what is known of a rafter at an eaves of a plan.; Walks of package joint: Birdsmouth, Deepest, of whatever rafter at an eaves.
-/
import Derived.Test.YtjnhmfcklodfdaaGreatDoorIV15
import Derived.Test.YtjnhmfcklodfdaaGreatDoorIV23
set_option maxRecDepth 100000
set_option maxHeartbeats 4000000
namespace Go.Proofs.YtjnhmfcklodfdaaGreatDoor
section
open Go.RowKit Go.Shelf Kp
attribute [local go_sem] Oper.semAt_some
theorem zoG(s n:Sd):zg2 s n<4:=by
 unfold zg2
 split
 ·omega
 ·split
  ·omega
  ·split <;> omega
theorem Env.dirAt{w:World}(h:Env w){k:Nat}(hk:k<4):w.cell? ⟨3,k*2,none⟩=some (.bool (upF k))∧w.cell? ⟨3,k*2+1,none⟩=some (.int .i64 (ztV k)):=by
 obtain⟨t,f,hd⟩:=h.dirs
 have hc:∀ i,w.cell? ⟨3,i,none⟩=zsB[i]?:=fun i=>by simp[World.cell?,hd]
 rw[hc,hc]
 match k,hk with
 | 0,_=>exact⟨rfl,rfl⟩
 | 1,_=>exact⟨rfl,rfl⟩
 | 2,_=>exact⟨rfl,rfl⟩
 | 3,_=>exact⟨rfl,rfl⟩
theorem zc7{W:World}{b:Nat}{x y z u v:Value}(h:Blk W b [x,y,z,u,v] 150)(fn:Func)(m:Nat)(hf:fn.results=#[.cell m 150])(tmps:Array Value)(hp:tmps.getD m undef=.pointer (some ⟨b,0,none⟩)) :
  (results fn tmps).run Tryz.prog W=.ok (.agg #[x,y,z,u,v]) W:=by
 exact results_cell_row hf tmps W b _ #[x,y,z,u,v] (0,0) _ hp h Tryz.underlying150 rfl (by kernel_rfl)
theorem zsk(s n:Sd)(hs:Rgd s)(w:World)(hE:Env w) :
  CR 151 #[.agg (sdC s).toArray,.agg (sdC n).toArray] w (.agg (frC (zjK s n)).toArray):=by
 have HH:=LH (fun w (_:Env w)=>zlR s n w)
 have HP:=LH (fun w hw=>zbm s.plate 1 (by decide) (by have:=hs.p0;have:=hs.p1;omega) (by decide) w hw)
 rw[zkW]at HP
 have HD:Hid (∀ W,Env W→W.cell? ⟨3,zg2 s n*2,none⟩=some (.bool (upF (zg2 s n)))∧W.cell? ⟨3,zg2 s n*2+1,none⟩=some (.int .i64 (ztV (zg2 s n)))):=LH (fun W hW=>hW.dirAt (zoG s n))
 have hk4:=zoG s n
 obtain⟨SP,hSP⟩:∃ SP,ze (if s.gable then(0:Rat)else Rat.divInt s.run s.rise)=SP:=⟨_,rfl⟩
 have H1:Hid (s.gable=true→SP=[48]):=LH (fun hg=>by rw[← hSP,if_pos hg];exact zaS)
 have HN:Hid (s.gable=false→∃ k:Nat,s.rise=k∧∀ W,Env W→CR 220 #[.int .i64 s.run,.int .i64 (k:Nat)] W (.tuple #[.string ⟨SP.toArray⟩,.int .i64 0])):=LH (fun hg=>by
  rw[← hSP,hg]
  have h1:=hs.n hg
  obtain⟨k,hk⟩:=Int.eq_ofNat_of_zero_le (show 0≤s.rise by omega)
  refine⟨k,hk,fun W hW=>?_⟩
  rw[hk]
  exact zbm s.run k (by omega) (by omega) (by omega) W hW)
 unfold zjK frC
 simp only[hSP]
 clear hSP
 generalize zg2 s n=hd at *
 generalize upF hd=up at *
 generalize ztV hd=dr at *
 obtain⟨x1,y1,r1,n1,g1,p1,o1⟩:=s
 obtain⟨x2,y2,r2,n2,g2,p2,o2⟩:=n
 simp only at HN H1 HP ⊢
 clear hs
 generalize ze (p1:Rat)=PL at *
 obtain⟨co,hco⟩:∃ co,(if up=true then x1 else y1)=co:=⟨_,rfl⟩
 rw[hco]
 have hdz:(hd:Int)<4:=by omega
 have hd0:(0:Int)≤hd:=by omega
 have BS:=((Blk.new w [.int .i64 x1,.int .i64 y1,.int .i64 r1,.int .i64 n1,.bool g1,.int .i64 p1,.int .i64 o1] 93).alloc (.cells #[.int .i64 x2,.int .i64 y2,.int .i64 r2,.int .i64 n2,.bool g2,.int .i64 p2,.int .i64 o2] 93)).alloc (.cells #[.bool false,.int .i64 0,.int .i64 0,.string ⟨#[]⟩,.string ⟨#[]⟩] 150)
 have BZ:=Blk.new ((w.alloc (.cells #[.int .i64 x1,.int .i64 y1,.int .i64 r1,.int .i64 n1,.bool g1,.int .i64 p1,.int .i64 o1] 93)).alloc (.cells #[.int .i64 x2,.int .i64 y2,.int .i64 r2,.int .i64 n2,.bool g2,.int .i64 p2,.int .i64 o2] 93)) [.bool false,.int .i64 0,.int .i64 0,.string ⟨#[]⟩,.string ⟨#[]⟩] 150
 rw[World.size_alloc,World.size_alloc]at BZ
 unfold sdC at *
 simp only
 have BN:=(Blk.new (w.alloc (.cells #[.int .i64 x1,.int .i64 y1,.int .i64 r1,.int .i64 n1,.bool g1,.int .i64 p1,.int .i64 o1] 93)) [.int .i64 x2,.int .i64 y2,.int .i64 r2,.int .i64 n2,.bool g2,.int .i64 p2,.int .i64 o2] 93).alloc (.cells #[.bool false,.int .i64 0,.int .i64 0,.string ⟨#[]⟩,.string ⟨#[]⟩] 150)
 rw[World.size_alloc]at BN
 obtain⟨W0,hW0⟩:∃ W0,((w.alloc (.cells #[.int .i64 x1,.int .i64 y1,.int .i64 r1,.int .i64 n1,.bool g1,.int .i64 p1,.int .i64 o1] 93)).alloc (.cells #[.int .i64 x2,.int .i64 y2,.int .i64 r2,.int .i64 n2,.bool g2,.int .i64 p2,.int .i64 o2] 93)).alloc (.cells #[.bool false,.int .i64 0,.int .i64 0,.string ⟨#[]⟩,.string ⟨#[]⟩] 150)=W0:=⟨_,rfl⟩
 have hq0:Q w W0:=by rw[← hW0];exact bt
 have hEw:=hE.ofQ hq0
 have hs0:W0.heap.size=w.heap.size+3:=by rw[← hW0];simp
 rw[hW0]at BS BN BZ
 clear hE
 have hE:=hEw
 clear hEw
 have hQ0:=Q.refl W0
 replace s0:=BS.cell
 replace lBS:=BS.lt
 replace t0:=BN.cell
 replace lBN:=BN.lt
 replace z0:=BZ.cell
 replace lBZ:=BZ.lt
 go_enter Tryz.func151,Tryz.ntmps151
 go_wp2_with fail
 clear hW0
 refine cx (HH.out _ (hE.ofQ bt)) fun Y1 hq1=>?_
 have hs1:Q W0 Y1:=Q.trans bt hq1
 have hQ1:Q W0 Y1:=Q.trans hQ0 hs1
 replace BS:=BS.keep hs1 BS.lt
 replace s0:=BS.cell
 replace lBS:=BS.lt
 replace BN:=BN.keep hs1 BN.lt
 replace t0:=BN.cell
 replace lBN:=BN.lt
 replace BZ:=BZ.keep hs1 BZ.lt
 replace z0:=BZ.cell
 replace lBZ:=BZ.lt
 obtain⟨d0,d1⟩:=HD.out _ (hE.ofQ hQ1)
 clear BN lBN t0
 have lY:=hQ1.size
 cases up <;> cases g1
 case false.false =>
  obtain rfl:y1=co:=hco
  have F:=Blk.new (Y1.alloc (.cells #[.bool false,.int .i64 dr] 297)) [.bool false,.int .i64 y1,.int .i64 dr,.string ⟨#[48]⟩,.string ⟨#[]⟩] 150
  rw[World.size_alloc]at F
  obtain⟨k,rfl,hN⟩:=HN.out rfl
  have HO:=LH hN
  clear hN
  clear HN HD HH H1
  have F1:=F
  clear F
  have BS1:=BS
  have BZ1:=BZ
  go_wp2_with fail
  refine cx (HO.out _ (hE.ofQ bt)) fun Y2 hq2=>?_
  have hs2:Q Y1 Y2:=Q.trans bt hq2
  replace BS:=BS.keep hs2 BS.lt
  replace BZ:=BZ.keep hs2 BZ.lt
  replace s0:=BS.cell
  replace z0:=BZ.cell
  replace F1:=F1.keep hq2 F1.lt
  have f0:=F1.cell
  have g3:=F1.frozen 3
  have F2:=F1.set 3 (.string ⟨SP.toArray⟩)
  simp only[List.set_cons_zero,List.set_cons_succ]at F2
  clear HO
  clear F1
  go_wp2_with fail
  clear f0 g3
  have hB2:Below Y1.heap.size Y1 (Y2.setCell ⟨Y1.heap.size+1,3,none⟩ (.string ⟨SP.toArray⟩)):=hs2.setCell (p:=⟨Y1.heap.size+1,3,none⟩) (by simp) _
  have hQ2s:Q W0 (Y2.setCell ⟨Y1.heap.size+1,3,none⟩ (.string ⟨SP.toArray⟩)):=Below.trans hQ1 (hB2.mono lY)
  refine cx (HP.out _ (hE.ofQ hQ2s)) fun Y3 hq3=>?_
  have hB3:Below Y1.heap.size Y1 Y3:=Below.trans hB2 (hq3.mono hB2.size)
  have hQ3:Q W0 Y3:=Below.trans hQ1 (hB3.mono lY)
  replace BS:=BS1.keep hB3 BS1.lt
  replace BZ:=BZ1.keep hB3 BZ1.lt
  replace s0:=BS.cell
  replace z0:=BZ.cell
  clear BS1 BZ1 hB2 hQ2s
  replace F2:=F2.keep hq3 F2.lt
  have f0:=F2.cell
  have g4:=F2.frozen 4
  have k0:=BZ.frozen 0
  have k1:=BZ.frozen 1
  have k2:=BZ.frozen 2
  have k3:=BZ.frozen 3
  have k4:=BZ.frozen 4
  have hne:Y1.heap.size+1≠w.heap.size+1+1:=by omega
  have hne2:w.heap.size+1+1≠Y1.heap.size+1:=by omega
  have hy:w.heap.size≤Y1.heap.size+1:=by omega
  have hy2:w.heap.size≤w.heap.size+1+1:=by omega
  generalize Y1.heap.size+1=bf at *
  generalize w.heap.size+1+1=bz at *
  have Z:=((((((BZ.setOther hne 4 (.string ⟨PL.toArray⟩)).set 0 (.bool false)).set 1 (.int .i64 y1)).set 2 (.int .i64 dr)).set 3 (.string ⟨SP.toArray⟩)).set 4 (.string ⟨PL.toArray⟩))
  simp only[List.set_cons_zero,List.set_cons_succ]at Z
  have hQe:=((((((Q.trans hq0 hQ3).setCell (p:=⟨bf,4,none⟩) hy (.string ⟨PL.toArray⟩)).setCell (p:=⟨bz,0,none⟩) hy2 (.bool false)).setCell (p:=⟨bz,1,none⟩) hy2 (.int .i64 y1)).setCell (p:=⟨bz,2,none⟩) hy2 (.int .i64 dr)).setCell (p:=⟨bz,3,none⟩) hy2 (.string ⟨SP.toArray⟩)).setCell (p:=⟨bz,4,none⟩) hy2 (.string ⟨PL.toArray⟩)
  clear HP F2
  have HR:=zc7 Z
  go_wp2_with (exact bodyPost_ret (HR Tryz.f151 4 rfl _ rfl) rfl ⟨rfl,hQe⟩)
 case false.true =>
  obtain rfl:y1=co:=hco
  have F:=Blk.new (Y1.alloc (.cells #[.bool false,.int .i64 dr] 297)) [.bool false,.int .i64 y1,.int .i64 dr,.string ⟨#[48]⟩,.string ⟨#[]⟩] 150
  rw[World.size_alloc]at F
  obtain rfl:=H1.out rfl
  clear HN HD HH H1
  have F1:=F
  clear F
  have F2:=F1
  clear F1
  go_wp2_with fail
  refine cx (HP.out _ (hE.ofQ bt)) fun Y3 hq3=>?_
  have hB3:Q Y1 Y3:=Q.trans bt hq3
  have hQ3:Q W0 Y3:=Q.trans hQ1 hB3
  replace BS:=BS.keep hB3 BS.lt
  replace BZ:=BZ.keep hB3 BZ.lt
  replace s0:=BS.cell
  replace z0:=BZ.cell
  replace F2:=F2.keep hq3 F2.lt
  have f0:=F2.cell
  have g4:=F2.frozen 4
  have k0:=BZ.frozen 0
  have k1:=BZ.frozen 1
  have k2:=BZ.frozen 2
  have k3:=BZ.frozen 3
  have k4:=BZ.frozen 4
  have hne:Y1.heap.size+1≠w.heap.size+1+1:=by omega
  have hne2:w.heap.size+1+1≠Y1.heap.size+1:=by omega
  have hy:w.heap.size≤Y1.heap.size+1:=by omega
  have hy2:w.heap.size≤w.heap.size+1+1:=by omega
  generalize Y1.heap.size+1=bf at *
  generalize w.heap.size+1+1=bz at *
  have Z:=((((((BZ.setOther hne 4 (.string ⟨PL.toArray⟩)).set 0 (.bool false)).set 1 (.int .i64 y1)).set 2 (.int .i64 dr)).set 3 (.string ⟨#[48]⟩)).set 4 (.string ⟨PL.toArray⟩))
  simp only[List.set_cons_zero,List.set_cons_succ]at Z
  have hQe:=((((((Q.trans hq0 hQ3).setCell (p:=⟨bf,4,none⟩) hy (.string ⟨PL.toArray⟩)).setCell (p:=⟨bz,0,none⟩) hy2 (.bool false)).setCell (p:=⟨bz,1,none⟩) hy2 (.int .i64 y1)).setCell (p:=⟨bz,2,none⟩) hy2 (.int .i64 dr)).setCell (p:=⟨bz,3,none⟩) hy2 (.string ⟨#[48]⟩)).setCell (p:=⟨bz,4,none⟩) hy2 (.string ⟨PL.toArray⟩)
  clear HP F2
  have HR:=zc7 Z
  go_wp2_with (exact bodyPost_ret (HR Tryz.f151 4 rfl _ rfl) rfl ⟨rfl,hQe⟩)
 case true.false =>
  obtain rfl:x1=co:=hco
  have F:=Blk.new (Y1.alloc (.cells #[.bool true,.int .i64 dr] 297)) [.bool true,.int .i64 x1,.int .i64 dr,.string ⟨#[48]⟩,.string ⟨#[]⟩] 150
  rw[World.size_alloc]at F
  obtain⟨k,rfl,hN⟩:=HN.out rfl
  have HO:=LH hN
  clear hN
  clear HN HD HH H1
  have F1:=F
  clear F
  have BS1:=BS
  have BZ1:=BZ
  go_wp2_with fail
  refine cx (HO.out _ (hE.ofQ bt)) fun Y2 hq2=>?_
  have hs2:Q Y1 Y2:=Q.trans bt hq2
  replace BS:=BS.keep hs2 BS.lt
  replace BZ:=BZ.keep hs2 BZ.lt
  replace s0:=BS.cell
  replace z0:=BZ.cell
  replace F1:=F1.keep hq2 F1.lt
  have f0:=F1.cell
  have g3:=F1.frozen 3
  have F2:=F1.set 3 (.string ⟨SP.toArray⟩)
  simp only[List.set_cons_zero,List.set_cons_succ]at F2
  clear HO
  clear F1
  go_wp2_with fail
  clear f0 g3
  have hB2:Below Y1.heap.size Y1 (Y2.setCell ⟨Y1.heap.size+1,3,none⟩ (.string ⟨SP.toArray⟩)):=hs2.setCell (p:=⟨Y1.heap.size+1,3,none⟩) (by simp) _
  have hQ2s:Q W0 (Y2.setCell ⟨Y1.heap.size+1,3,none⟩ (.string ⟨SP.toArray⟩)):=Below.trans hQ1 (hB2.mono lY)
  refine cx (HP.out _ (hE.ofQ hQ2s)) fun Y3 hq3=>?_
  have hB3:Below Y1.heap.size Y1 Y3:=Below.trans hB2 (hq3.mono hB2.size)
  have hQ3:Q W0 Y3:=Below.trans hQ1 (hB3.mono lY)
  replace BS:=BS1.keep hB3 BS1.lt
  replace BZ:=BZ1.keep hB3 BZ1.lt
  replace s0:=BS.cell
  replace z0:=BZ.cell
  clear BS1 BZ1 hB2 hQ2s
  replace F2:=F2.keep hq3 F2.lt
  have f0:=F2.cell
  have g4:=F2.frozen 4
  have k0:=BZ.frozen 0
  have k1:=BZ.frozen 1
  have k2:=BZ.frozen 2
  have k3:=BZ.frozen 3
  have k4:=BZ.frozen 4
  have hne:Y1.heap.size+1≠w.heap.size+1+1:=by omega
  have hne2:w.heap.size+1+1≠Y1.heap.size+1:=by omega
  have hy:w.heap.size≤Y1.heap.size+1:=by omega
  have hy2:w.heap.size≤w.heap.size+1+1:=by omega
  generalize Y1.heap.size+1=bf at *
  generalize w.heap.size+1+1=bz at *
  have Z:=((((((BZ.setOther hne 4 (.string ⟨PL.toArray⟩)).set 0 (.bool true)).set 1 (.int .i64 x1)).set 2 (.int .i64 dr)).set 3 (.string ⟨SP.toArray⟩)).set 4 (.string ⟨PL.toArray⟩))
  simp only[List.set_cons_zero,List.set_cons_succ]at Z
  have hQe:=((((((Q.trans hq0 hQ3).setCell (p:=⟨bf,4,none⟩) hy (.string ⟨PL.toArray⟩)).setCell (p:=⟨bz,0,none⟩) hy2 (.bool true)).setCell (p:=⟨bz,1,none⟩) hy2 (.int .i64 x1)).setCell (p:=⟨bz,2,none⟩) hy2 (.int .i64 dr)).setCell (p:=⟨bz,3,none⟩) hy2 (.string ⟨SP.toArray⟩)).setCell (p:=⟨bz,4,none⟩) hy2 (.string ⟨PL.toArray⟩)
  clear HP F2
  have HR:=zc7 Z
  go_wp2_with (exact bodyPost_ret (HR Tryz.f151 4 rfl _ rfl) rfl ⟨rfl,hQe⟩)
 case true.true =>
  obtain rfl:x1=co:=hco
  have F:=Blk.new (Y1.alloc (.cells #[.bool true,.int .i64 dr] 297)) [.bool true,.int .i64 x1,.int .i64 dr,.string ⟨#[48]⟩,.string ⟨#[]⟩] 150
  rw[World.size_alloc]at F
  obtain rfl:=H1.out rfl
  clear HN HD HH H1
  have F1:=F
  clear F
  have F2:=F1
  clear F1
  go_wp2_with fail
  refine cx (HP.out _ (hE.ofQ bt)) fun Y3 hq3=>?_
  have hB3:Q Y1 Y3:=Q.trans bt hq3
  have hQ3:Q W0 Y3:=Q.trans hQ1 hB3
  replace BS:=BS.keep hB3 BS.lt
  replace BZ:=BZ.keep hB3 BZ.lt
  replace s0:=BS.cell
  replace z0:=BZ.cell
  replace F2:=F2.keep hq3 F2.lt
  have f0:=F2.cell
  have g4:=F2.frozen 4
  have k0:=BZ.frozen 0
  have k1:=BZ.frozen 1
  have k2:=BZ.frozen 2
  have k3:=BZ.frozen 3
  have k4:=BZ.frozen 4
  have hne:Y1.heap.size+1≠w.heap.size+1+1:=by omega
  have hne2:w.heap.size+1+1≠Y1.heap.size+1:=by omega
  have hy:w.heap.size≤Y1.heap.size+1:=by omega
  have hy2:w.heap.size≤w.heap.size+1+1:=by omega
  generalize Y1.heap.size+1=bf at *
  generalize w.heap.size+1+1=bz at *
  have Z:=((((((BZ.setOther hne 4 (.string ⟨PL.toArray⟩)).set 0 (.bool true)).set 1 (.int .i64 x1)).set 2 (.int .i64 dr)).set 3 (.string ⟨#[48]⟩)).set 4 (.string ⟨PL.toArray⟩))
  simp only[List.set_cons_zero,List.set_cons_succ]at Z
  have hQe:=((((((Q.trans hq0 hQ3).setCell (p:=⟨bf,4,none⟩) hy (.string ⟨PL.toArray⟩)).setCell (p:=⟨bz,0,none⟩) hy2 (.bool true)).setCell (p:=⟨bz,1,none⟩) hy2 (.int .i64 x1)).setCell (p:=⟨bz,2,none⟩) hy2 (.int .i64 dr)).setCell (p:=⟨bz,3,none⟩) hy2 (.string ⟨#[48]⟩)).setCell (p:=⟨bz,4,none⟩) hy2 (.string ⟨PL.toArray⟩)
  clear HP F2
  have HR:=zc7 Z
  go_wp2_with (exact bodyPost_ret (HR Tryz.f151 4 rfl _ rfl) rfl ⟨rfl,hQe⟩)
theorem zq8:(Tryz.prog.info? 150).map (fun i=>(i.zero,i.size,i.bytes))=some (some (.agg #[.bool false,.int .i64 0,.int .i64 0,.string ⟨#[]⟩,.string ⟨#[]⟩]),5,56):=by kernel_rfl
def zu0(r:List Sd)(i:Nat):Fr:=zjK (zcN r i) (zcN r ((i+1) % r.length))
def frN(r:List Sd)(k:Nat):List Value:=(List.range k).flatMap fun i=>frC (zu0 r i)
theorem zsm(r:List Sd)(k:Nat):frN r (k+1)=frN r k++frC (zu0 r k):=by unfold frN;rw[List.range_succ,List.flatMap_append];simp
def frR(R:List (List Sd))(k:Nat):List Value:=rowOf frC (zb9 (R.take k))
theorem ztK(r:List Sd):frN r r.length=rowOf frC (zom r):=by
 unfold frN rowOf zom
 rw[List.flatMap_map]
 rfl
theorem zsl{R:List (List Sd)}{k:Nat}(h:k<R.length):frR R (k+1)=frR R k++frN (ringAt R k) (ringAt R k).length:=by
 rw[ztK]
 unfold frR
 rw[List.take_succ_eq_append_getElem h,zaK h]
 unfold zb9 rowOf
 rw[List.flatMap_append,List.flatMap_append]
 simp
theorem ztJ(R:List (List Sd)):frR R R.length=rowOf frC (zb9 R):=by unfold frR;rw[List.take_length]
theorem zrn(R:List (List Sd))(h:zdR R=0)(hn:R.length≤1000)(v:Value)(w:World)(hE:Env w)(hv:zj0 w v R) :
  Calls Tryz.prog 87 #[.agg #[v]] w fun e w'=>∃ v',e=.returned (.tuple #[v',.int .i64 0])∧w'.ownsRow w.heap.size 150 5 v' R.flatten.length (rowOf frC (zb9 R))∧Q w w':=by
 have ok:=zls h
 have hle:=ok.le
 rw[← ztJ,count_flatten,← zoK]
 have HK:Hid (∀ W,Q w W→CR 85 #[.agg #[v]] W (.int .i64 0)):=LH (fun W hq=>by
  have:=zhs R hn (by omega) v W (hv.keep hq)
  rw[h]at this
  exact this)
 have HRI:Hid (∀ W,Q w W→∃ a cap,v=.slice a R.length cap∧∀ i,i<R.length→∃ b o a2 c2,a=some ⟨b,o,none⟩∧W.cell? ⟨b,o+i,none⟩=some (.slice a2 (ringAt R i).length c2)∧zcw W a2 (ringAt R i)∧∀ k∈zb1 a2,k<W.heap.size):=LH (fun W hq=>(hv.keep hq).ring (fun r hr=>by have:=ok.four r hr;omega))
 have HRW:Hid (∀ i,i<R.length→0<(ringAt R i).length∧(ringAt R i).length≤24∧∀ s∈ringAt R i,Rgd s):=LH (fun i hi=>by
  have hm:ringAt R i∈R:=by rw[zaK hi];exact List.getElem_mem hi
  have h4:=ok.four _ hm
  exact⟨by omega,Nat.le_trans (zqH hm) hle,fun s hs=>ok.rg s (List.mem_flatten.2 ⟨_,hm,hs⟩)⟩)
 have HS1:Hid (∀ k,k<R.length→zlW R (k+1)=zlW R k+(ringAt R k).length):=LH (fun k hk=>znd hk)
 have HSl:Hid (∀ k,zlW R k≤24):=LH (fun k=>Nat.le_trans (zrx R k) hle)
 have HF1:Hid (∀ k,k<R.length→frR R (k+1)=frR R k++frN (ringAt R k) (ringAt R k).length):=LH (fun k hk=>zsl hk)
 obtain⟨a0,cap0,rfl,-⟩:=id hv
 clear ok h hv hle
 have hRz:(R.length:Int)≤1000:=by omega
 obtain⟨c0,ci,cz0,cz1,cz2⟩:=zcr zq8
 have B:=Blk.new w [.slice a0 R.length cap0] 49
 have hq1:Q w (w.alloc (.cells [Value.slice a0 R.length cap0].toArray 49)):=(Below.refl _ w).alloc (Nat.le_refl _) _
 have k0:=B.cell
 go_enter Tryz.func87,Tryz.ntmps87
 go_wp2_with fail
 refine cx (HK.out _ hq1) fun w2 hq=>?_
 replace B:=B.keep hq B.lt
 replace k0:=B.cell
 have hq2:=Q.trans hq1 hq
 have hsz:w.heap.size+1≤w2.heap.size:=by have:=hq.size;simpa using this
 clear hq hq1 HK
 go_wp2
 go_loopw [15,4] (fun i o wr=>∃ k:Nat,k≤R.length∧i=.int .i64 k∧wr.ownsRow w.heap.size 150 5 o (zlW R k) (frR R k)∧Q w wr∧w.heap.size+1≤wr.heap.size) (fun i _ _=>R.length - (intOf i).toNat)
 case atStart=>exact⟨0,by omega,rfl,World.ownsRow_nil _ _ _ _,hq2,hsz⟩
 case round =>
  obtain⟨g,hg,rfl,howg,hQg,hszg⟩:=hrel
  by_cases hgl:g<R.length
  ·obtain⟨a',cap',he,hcg⟩:=HRI.out w (Q.refl w)
   obtain⟨b1,o1,a2,c2,ha,hcell,hrow,-⟩:=hcg g hgl
   injection he with he1 he2 he3
   subst he1 he3
   subst ha
   obtain⟨hl0,hl24,hrg⟩:=HRW.out g hgl
   replace hcell:=za hQg hcell
   have HR:=LH hrow
   have HRG:=LH hrg
   have HSg:=LH (HS1.out g hgl)
   have HFg:=LH (HF1.out g hgl)
   have hcg24:=HSl.out (g+1)
   rw[HSg.out]at hcg24
   have hlz:((ringAt R g).length:Int)≤24:=by omega
   have hz1:(0:Int)<(ringAt R g).length:=by omega
   have hgz:(g:Int)<R.length:=by omega
   have hg0:(0:Int)≤g:=by omega
   obtain⟨P,hP⟩:∃ P,frR R g=P:=⟨_,rfl⟩
   obtain⟨p,hp⟩:∃ p,zlW R g=p:=⟨_,rfl⟩
   rw[hP]at howg HFg
   rw[hp]at howg HSg hcg24
   have HP0:Hid (P=P++frN (ringAt R g) 0):=LH (by unfold frN;simp)
   clear hP hp hcg hrow hrg
   generalize ringAt R g=r at *
   generalize u4=og at *
   generalize wr=WG at *
   go_wp2
   go_loopw [21,4] (fun i o wr=>∃ k:Nat,k≤r.length∧i=.int .i64 k∧wr.ownsRow w.heap.size 150 5 o (p+k) (P++frN r k)∧Q w wr∧w.heap.size+1≤wr.heap.size) (fun i _ _=>r.length - (intOf i).toNat)
   case atStart=>exact⟨0,by omega,rfl,by rw[← HP0.out];exact howg,hQg,hszg⟩
   case round =>
    obtain⟨k,hk,rfl,hown,hQ,hsz'⟩:=hrel
    by_cases hlt:k<r.length
    ·obtain⟨b,o,rfl,hc⟩:=(HR.out.q hQ) k hlt
     obtain⟨b',o',he,hd⟩:=(HR.out.q hQ) ((k+1) % r.length) (Nat.mod_lt _ hl0)
     injection he with he
     injection he with he1 he2
     subst he1 he2
     obtain⟨q,hq'⟩:∃ q,(k+1) % r.length=q:=⟨_,rfl⟩
     have hqn:q<r.length:=by rw[← hq'];exact Nat.mod_lt _ hl0
     have e1:=Go.IntWalk.i64_in ((k:Int)+1) (by omega)
     have e2:((k:Int)+1).tmod (r.length:Int)=(q:Int):=by
      rw[Int.tmod_eq_emod_of_nonneg (by omega),show ((k:Int)+1)=((k+1:Nat):Int) by omega,← hq'];exact(Int.natCast_emod _ _).symm
     have hkz:(k:Int)<r.length:=by omega
     have hk0:(0:Int)≤k:=by omega
     have hqz:(q:Int)<r.length:=by omega
     have hq0:(0:Int)≤q:=by omega
     have hnz:¬ r=[]:=by
      intro h
      rw[h]at hl0
      simp at hl0
     have HF:=LH (fun W hW=>zsk (zcN r k) (zcN r q) (HRG.out _ (zol hlt)) W hW)
     have HS:Hid (P++frN r (k+1)=P++(frN r k++frC (zjK (zcN r k) (zcN r q)))):=LH (by rw[zsm,zu0,hq'])
     rw[hq']at hd
     generalize zjK (zcN r k) (zcN r q)=f at *
     generalize zcN r k=s at *
     generalize zcN r q=t at *
     unfold frC at HF HS
     unfold sdC at hc hd HF
     have d0:=hc 0 _ rfl
     have d1:=hc 1 _ rfl
     have d2:=hc 2 _ rfl
     have d3:=hc 3 _ rfl
     have d4:=hc 4 _ rfl
     have d5:=hc 5 _ rfl
     have d6:=hc 6 _ rfl
     have n0:=hd 0 _ rfl
     have n1:=hd 1 _ rfl
     have n2:=hd 2 _ rfl
     have n3:=hd 3 _ rfl
     have n4:=hd 4 _ rfl
     have n5:=hd 5 _ rfl
     have n6:=hd 6 _ rfl
     rw[Nat.add_zero]at d0 n0
     clear hc hd
     have M:=Blk.new wr [.int .i64 s.x,.int .i64 s.y,.int .i64 s.rise,.int .i64 s.run,.bool s.gable,.int .i64 s.plate,.int .i64 s.over] 93
     have hqa:Q wr (wr.alloc (.cells [Value.int .i64 s.x,.int .i64 s.y,.int .i64 s.rise,.int .i64 s.run,.bool s.gable,.int .i64 s.plate,.int .i64 s.over].toArray 93)):=(Below.refl _ wr).alloc (Nat.le_refl _) _
     obtain⟨W1,hW1⟩:∃ W1,wr.alloc (.cells #[.int .i64 s.x,.int .i64 s.y,.int .i64 s.rise,.int .i64 s.run,.bool s.gable,.int .i64 s.plate,.int .i64 s.over] 93)=W1:=⟨_,rfl⟩
     have hW1':wr.alloc (.cells [Value.int .i64 s.x,.int .i64 s.y,.int .i64 s.rise,.int .i64 s.run,.bool s.gable,.int .i64 s.plate,.int .i64 s.over].toArray 93)=W1:=hW1
     rw[hW1']at M hqa
     clear hW1'
     go_wp2_with fail
     try rw[hW1]
     clear hW1
     have hEd:Env W1.drew:=(hE.ofQ (Q.trans hQ (Q.trans hqa (Below.drew (Q.refl W1)))))
     have hqd:Q wr W1.drew:=Q.trans hqa (Below.drew (Q.refl W1))
     have m0:=M.drew.cell 0
     have m1:=M.drew.cell 1
     have m2:=M.drew.cell 2
     have m3:=M.drew.cell 3
     have m4:=M.drew.cell 4
     have m5:=M.drew.cell 5
     have m6:=M.drew.cell 6
     simp only[zs4,zs5]at m0 m1 m2 m3 m4 m5 m6
     replace n0:=za hqd n0
     replace n1:=za hqd n1
     replace n2:=za hqd n2
     replace n3:=za hqd n3
     replace n4:=za hqd n4
     replace n5:=za hqd n5
     replace n6:=za hqd n6
     clear d0 d1 d2 d3 d4 d5 d6
     refine RF.zm (ρ:=zp7 W1.drew.heap.size) 12 (by kernel_rfl) (by kernel_rfl) rfl ?_
     refine RF.svp 0 ?_
     refine RF.svq 1 rfl (by intro w' hq;have hc0:=za (hq (Nat.le_refl _)) m0;have hc1:=za (hq (Nat.le_refl _)) m1;have hc2:=za (hq (Nat.le_refl _)) m2;have hc3:=za (hq (Nat.le_refl _)) m3;have hc4:=za (hq (Nat.le_refl _)) m4;have hc5:=za (hq (Nat.le_refl _)) m5;have hc6:=za (hq (Nat.le_refl _)) m6;go_simp;try with_reducible rfl) ?_
     refine RF.svp 2 ?_
     refine RF.svp 3 ?_
     refine RF.svp 4 ?_
     refine RF.svp 5 ?_
     refine RF.svp 6 ?_
     refine RF.svp 7 ?_
     refine RF.svp 8 ?_
     refine RF.svq 9 rfl (by intro w' hq;have hc0:=za (hq (Nat.le_refl _)) n0;have hc1:=za (hq (Nat.le_refl _)) n1;have hc2:=za (hq (Nat.le_refl _)) n2;have hc3:=za (hq (Nat.le_refl _)) n3;have hc4:=za (hq (Nat.le_refl _)) n4;have hc5:=za (hq (Nat.le_refl _)) n5;have hc6:=za (hq (Nat.le_refl _)) n6;go_simp;try with_reducible rfl) ?_
     refine RF.zh (i:=10) (v:=_) rfl rfl (by kernel_rfl) (by kernel_rfl) (fun _ _ _ h=>h) (by rfl) ?_ (fun w' hq=>HF.out w' (hEd.ofQ (hq (Nat.le_refl _)))) ?_
     ·(intro w' hq;go_simp;try with_reducible rfl)
     simp only[Act.put,zs1,zs2,zs3]
     refine RF.zbe (i:=11) (fun w'=>.slice (some ⟨w'.heap.size,0,none⟩) 1 1) (.cells #[.bool f.up,.int .i64 f.coord,.int .i64 f.dir,.string ⟨(ze f.speed).toArray⟩,.string ⟨(ze f.start).toArray⟩] 150) rfl rfl (by kernel_rfl) (by rfl) (fun w' hq=>by go_simp;try with_reducible rfl) (fun w3 hq3=>?_)
     simp only[Act.put,zs1,zs2,zs3]
     refine RF.zi (by kernel_rfl) (fun w5 hq5=>?_)
     simp only[List.drop_succ_cons,List.drop_zero]
     have T:=(Blk.new w3 [.bool f.up,.int .i64 f.coord,.int .i64 f.dir,.string ⟨(ze f.speed).toArray⟩,.string ⟨(ze f.start).toArray⟩] 150).keep hq5 (by simp)
     have hq35:Q wr w5:=Q.trans hqd (Q.trans hq3 (Q.trans ((Below.refl _ w3).alloc (Nat.le_refl _) _) hq5))
     have hown5:=zn hown hq35
     have hQ5:=Q.trans hQ hq35
     have hsz5:=Nat.le_trans hsz' hq35.size
     clear hq3 hq5 m0 m1 m2 m3 m4 m5 m6 n0 n1 n2 n3 n4 n5 n6 HF M hown hqa hqd hEd
     generalize w3.heap.size=t3 at *
     go_wp2_with (at_builtin;refine wpList_append_own_at _ rfl (.tmp 26) (.tmp 37) 145 rfl w.heap.size 150 c0 _ 5 56 Tryz.underlying145 ci cz0 cz1 cz2 rfl (by decide) u4 (p+k) (P++frN r k) rfl hown5 ⟨t3,0,none⟩ 1 1 [.bool f.up,.int .i64 f.coord,.int .i64 f.dir,.string ⟨(ze f.speed).toArray⟩,.string ⟨(ze f.start).toArray⟩] rfl rfl (fun j z hj=>by rw[Addr.add_lit,Nat.zero_add];exact(T.cell j).trans hj) (by
      intro z hz
      simp only[List.mem_cons,List.not_mem_nil,or_false]at hz
      rcases hz with rfl | rfl | rfl | rfl | rfl <;> rfl) (by unfold maxLen;omega) (by omega) (by omega) ?_)
     intro v9 w9 hown9 hgrow9 _ _
     have hQ9:Q w w9:=hQ5.grown hgrow9 (by omega) (fun j hj=>(hown5.lt j hj).1)
     have hsz9:=Nat.le_trans hsz5 hgrow9.size
     rw[← HS.out]at hown9
     clear hown5 hgrow9 T hq35 HS
     go_wp2
     go_roundw
     case rel=>exact⟨k+1,by omega,by go_num,hown9,hQ9,hsz9⟩
     case measure=>simp[intOf];omega
    ·obtain rfl:k=r.length:=by omega
     go_wp2
     go_roundw
     case rel=>exact⟨g+1,by omega,by go_num,by rw[HSg.out,HFg.out];exact hown,hQ,hsz'⟩
     case measure=>simp[intOf];omega
  ·obtain rfl:g=R.length:=by omega
   go_wp2
   go_ret2
   exact⟨_,rfl,howg,hQg⟩
theorem zn1(f:Fr)(h:FrOk f)(w:World)(hE:Env w) :
  CR 152 #[.agg (frC f).toArray] w (.int .i64 0):=by
 have HS:=LH (fun w hw=>zI f.speed (h.s.zah (by decide)) w hw)
 have HT:=LH (fun w hw=>zI f.start (h.p.zah (by decide)) w hw)
 have HU:=LH (fun w hw=>zh6 f.speed (h.s.mono (by decide)) w hw)
 have HV:=LH (fun w hw=>zh6 f.start (h.p.mono (by decide)) w hw)
 have HP:=LH (fun w=>zX (ze f.speed) w)
 have hneg:decide ((ze f.speed).head? = some 45)=false:=by rw[decide_eq_false_iff_not,zeZ];have:=h.s0;omega
 rw[hneg]at HP
 have hd:=h.d
 have h0:=h.c0
 have h1:=h.c1
 clear h hneg
 unfold frC
 generalize ze f.speed=S at *
 generalize ze f.start=T at *
 obtain⟨up,co,dr,sp,st⟩:=f
 simp only at h0 h1 hd ⊢
 have e1:decide (co<0)=false:=by rw[decide_eq_false_iff_not];omega
 have e2:decide ((65536:Int)<co)=false:=by rw[decide_eq_false_iff_not];omega
 have B:=(Blk.new w [.bool up,.int .i64 co,.int .i64 dr,.string ⟨S.toArray⟩,.string ⟨T.toArray⟩] 150).alloc (.cells #[.string ⟨S.toArray⟩,.string ⟨T.toArray⟩] 22)
 have N:=Blk.new (w.alloc (.cells #[.bool up,.int .i64 co,.int .i64 dr,.string ⟨S.toArray⟩,.string ⟨T.toArray⟩] 150)) [.string ⟨S.toArray⟩,.string ⟨T.toArray⟩] 22
 rw[World.size_alloc]at N
 obtain⟨W0,hW0⟩:∃ W0,(w.alloc (.cells #[.bool up,.int .i64 co,.int .i64 dr,.string ⟨S.toArray⟩,.string ⟨T.toArray⟩] 150)).alloc (.cells #[.string ⟨S.toArray⟩,.string ⟨T.toArray⟩] 22)=W0:=⟨_,rfl⟩
 have hq0:Q w W0:=by rw[← hW0];exact bt
 have hEw:=hE.ofQ hq0
 rw[hW0]at B N
 clear hE
 have hE:=hEw
 clear hEw
 rcases hd with rfl | rfl
 all_goals
  have hQ0:=Q.refl W0
  replace b0:=B.cell
  replace lB:=B.lt
  replace n0:=N.cell
  replace lN:=N.lt
  go_enter Tryz.func152,Tryz.ntmps152
  go_wp2
  refine wp_loop_rounds 3 ?_
  rw[rounds_succ]
  clear hW0
  go_wp2_with fail
  refine cx (HS.out _ (hE.ofQ bt)) fun Y1 hq1=>?_
  have hs1:Q W0 Y1:=Q.trans bt hq1
  have hQ1:Q W0 Y1:=Q.trans hQ0 hs1
  replace B:=B.keep hs1 B.lt
  replace b0:=B.cell
  replace lB:=B.lt
  replace N:=N.keep hs1 N.lt
  replace n0:=N.cell
  replace lN:=N.lt
  go_wp2
  rw[rounds_succ]
  go_wp2_with fail
  refine cx (HT.out _ (hE.ofQ bt)) fun Y2 hq2=>?_
  have hs2:Q Y1 Y2:=Q.trans bt hq2
  have hQ2:Q W0 Y2:=Q.trans hQ1 hs2
  replace B:=B.keep hs2 B.lt
  replace b0:=B.cell
  replace lB:=B.lt
  replace N:=N.keep hs2 N.lt
  replace n0:=N.cell
  replace lN:=N.lt
  go_wp2
  rw[rounds_succ]
  clear N lN n0
  obtain⟨W2,hW2⟩:∃ W2,Y2.alloc (.cells #[.string ⟨S.toArray⟩,.string ⟨T.toArray⟩] 22)=W2:=⟨_,rfl⟩
  have N:=Blk.new Y2 [.string ⟨S.toArray⟩,.string ⟨T.toArray⟩] 22
  have N:Blk W2 Y2.heap.size [.string ⟨S.toArray⟩,.string ⟨T.toArray⟩] 22:=by rw[← hW2];exact N
  have hqW:Q Y2 W2:=by rw[← hW2];exact bt
  have hE2:=hE.ofQ (Q.trans hQ2 hqW)
  have hQW:=Q.trans hQ2 hqW
  have bb3:=B.cell
  replace B:=B.keep hqW B.lt
  clear hE
  have hE:=hE2
  clear hE2
  have hQ0:=Q.refl W2
  replace b0:=B.cell
  replace lB:=B.lt
  replace n0:=N.cell
  replace lN:=N.lt
  go_wp2
  refine wp_loop_rounds 3 ?_
  rw[rounds_succ]
  clear hW2
  go_wp2_with fail
  refine cx (HU.out _ (hE.ofQ bt)) fun Z1 hq1=>?_
  have hs1:Q W2 Z1:=Q.trans bt hq1
  have hQ1:Q W2 Z1:=Q.trans hQ0 hs1
  replace B:=B.keep hs1 B.lt
  replace b0:=B.cell
  replace lB:=B.lt
  replace N:=N.keep hs1 N.lt
  replace n0:=N.cell
  replace lN:=N.lt
  go_wp2
  rw[rounds_succ]
  go_wp2_with fail
  refine cx (HV.out _ (hE.ofQ bt)) fun Z2 hq2=>?_
  have hs2:Q Z1 Z2:=Q.trans bt hq2
  have hQ2:Q W2 Z2:=Q.trans hQ1 hs2
  replace B:=B.keep hs2 B.lt
  replace b0:=B.cell
  replace lB:=B.lt
  replace N:=N.keep hs2 N.lt
  replace n0:=N.cell
  replace lN:=N.lt
  go_wp2
  rw[rounds_succ]
  go_wp2_with fail
  refine(HP.out _).mono ?_
  rintro e w9⟨rfl,rfl⟩
  have hQe:Q w Z2:=Q.trans hq0 (Q.trans hQW hQ2)
  go_wp2
  go_ret
  exact⟨rfl,hQe⟩
theorem zrm{m n:Nat}(x y:Rat)(hx:Bd m x)(hy:Bd n y)(h0:y.num≠0)(h:m+n≤300)(w:World)(hE:Env w) :
  CR 153 #[.string ⟨(ze x).toArray⟩,.string ⟨(ze y).toArray⟩] w (.string ⟨(ze (x / y)).toArray⟩):=by
 have HD:=LH (fun w hw=>zcl x y hx hy h0 h w hw)
 generalize ze (x / y)=R at *
 generalize ze x=X at *
 generalize ze y=Y at *
 go_enter Tryz.func153,Tryz.ntmps153
 have hQ0:=Q.refl w
 go_wp2_with fail
 refine cx (HD.out _ (hE.ofQ bt)) fun w1 hq1=>?_
 have hs1:Q w w1:=Q.trans bt hq1
 have hQ1:Q w w1:=Q.trans hQ0 hs1
 go_wp2
 go_ret
 exact⟨rfl,bt⟩
def zka(f:Fr):Rat:=(f.dir:Rat) / f.speed
def zsK(f:Fr):Rat:=f.start - zka f*(f.coord:Rat)
def zrL(f:Fr):List Value:=if f.up then [.string ⟨(ze (zka f)).toArray⟩,.string ⟨#[48]⟩,.string ⟨(ze (zsK f)).toArray⟩]else [.string ⟨#[48]⟩,.string ⟨(ze (zka f)).toArray⟩,.string ⟨(ze (zsK f)).toArray⟩]
theorem zfW{W:World}{b:Nat}{x y z:Value}(h:Blk W b [x,y,z] 89)(fn:Func)(m k:Nat)(hf:fn.results=#[.cell m 89,.tmp k])(tmps:Array Value)(u:Value)(hp:tmps.getD m undef=.pointer (some ⟨b,0,none⟩))(hk:tmps.getD k undef=u) :
  (results fn tmps).run Tryz.prog W=.ok (.tuple #[.agg #[x,y,z],u]) W:=by
 have c0:=h.cell
 simp only[Array.getD_eq_getD_getElem?]at hp hk
 simp[results,hf,go_sem,hp,hk,c0]
theorem zn0(f:Fr)(h:FrOk f)(hs:f.speed≠0)(w:World)(hE:Env w) :
  CR 88 #[.agg (frC f).toArray] w (.tuple #[.agg (zrL f).toArray,.int .i64 0]):=by
 have HC:=LH (fun w hw=>zn1 f h w hw)
 have n0:f.speed.num≠0:=fun e=>hs (Rat.num_eq_zero.1 e)
 have bd:Bd 5 (f.dir:Rat):=zoC (by rcases h.d with e | e <;> rw[e] <;> decide) (by decide)
 have bc:Bd 5 (f.coord:Rat):=zoC (by have:=h.c0;have:=h.c1;omega) (by decide)
 have br:Bd 10 (zka f):=bd.quot h.s (by have:=h.s0;omega)
 have HW1:=LH (fun w hw=>zjJ f.dir (by rcases h.d with e | e <;> rw[e] <;> decide) w hw)
 have HW2:=LH (fun w hw=>zjJ f.coord (by have:=h.c0;have:=h.c1;omega) w hw)
 have HD:=LH (fun w hw=>zrm (f.dir:Rat) f.speed bd h.s n0 (by decide) w hw)
 have HM:=LH (fun w hw=>zrl (zka f) (f.coord:Rat) br bc (by decide) w hw)
 have HS:=LH (fun w hw=>zrk f.start (zka f*(f.coord:Rat)) h.p (br.mul bc) (by decide) w hw)
 rw[show (f.dir:Rat) / f.speed=zka f from rfl]at HD
 rw[show f.start - zka f*(f.coord:Rat)=zsK f from rfl]at HS
 have hz:(ze f.speed == [48])=false:=by
  rw[beq_eq_false_iff_ne,← zaS];exact fun e=>hs (zaB e)
 clear h hs n0 bd bc br
 unfold zrL frC at *
 generalize ze (zka f*(f.coord:Rat))=RC at *
 generalize ze (zsK f)=BB at *
 generalize ze (zka f)=RR at *
 generalize ze (f.dir:Rat)=DD at *
 generalize ze (f.coord:Rat)=CC at *
 generalize ze f.speed=SS at *
 generalize ze f.start=ST at *
 obtain⟨up,co,di,sp,st⟩:=f
 simp only at *
 go_enter Tryz.func88,Tryz.ntmps88
 obtain⟨W0,hW0⟩:∃ W0,(w.alloc (.cells #[.bool up,.int .i64 co,.int .i64 di,.string ⟨SS.toArray⟩,.string ⟨ST.toArray⟩] 150)).alloc (.cells #[.string ⟨#[]⟩,.string ⟨#[]⟩,.string ⟨#[]⟩] 89)=W0:=⟨_,rfl⟩
 have hq0:Q w W0:=by rw[← hW0];exact bt
 have BF:Blk W0 w.heap.size [.bool up,.int .i64 co,.int .i64 di,.string ⟨SS.toArray⟩,.string ⟨ST.toArray⟩] 150:=by rw[← hW0];exact(Blk.new w _ _).alloc _
 have BZ:Blk W0 (w.heap.size+1) [.string ⟨#[]⟩,.string ⟨#[]⟩,.string ⟨#[]⟩] 89:=by rw[← hW0];exact Blk.new1 w _ _ _
 have hE0:=hE.ofQ hq0
 have hQ0:=Q.refl W0
 replace f0:=BF.cell 0
 replace f1:=BF.cell 1
 replace f2:=BF.cell 2
 replace f3:=BF.cell 3
 replace f4:=BF.cell 4
 simp only[zs4,zs5]at f0 f1 f2 f3 f4
 replace lBF:=BF.lt
 replace z0:=BZ.cell
 replace lBZ:=BZ.lt
 go_wp2_with fail
 refine cx (HC.out _ hE0) fun G1 hq1=>?_
 have hs1:Q W0 G1:=Q.trans bt hq1
 have hQ1:Q W0 G1:=Q.trans hQ0 hs1
 replace BF:=BF.keep hs1 BF.lt
 replace f0:=BF.cell 0
 replace f1:=BF.cell 1
 replace f2:=BF.cell 2
 replace f3:=BF.cell 3
 replace f4:=BF.cell 4
 simp only[zs4,zs5]at f0 f1 f2 f3 f4
 replace lBF:=BF.lt
 replace BZ:=BZ.keep hs1 BZ.lt
 replace z0:=BZ.cell
 replace lBZ:=BZ.lt
 clear hW0 HC
 go_wp2_with fail
 have hEd:Env G1.drew:=hE0.ofQ (Q.trans hQ1 bt)
 refine zm 6 rfl (by kernel_rfl) rfl ?_
 refine svp 0 ?_
 refine svq 1 rfl (by intro w' hq;have hc0:=za hq f2;go_simp;try with_reducible rfl) ?_
 refine zh (i:=2) (v:=_) rfl rfl (by kernel_rfl) (by kernel_rfl) (fun _ _ _ h=>h) (by rfl) ?_ (fun w' hq=>HW1.out w' (hEd.ofQ hq)) ?_
 ·(intro w' hq;go_simp;try with_reducible rfl)
 simp only[Act.put,zs1,zs2,zs3]
 refine svp 3 ?_
 refine svq 4 rfl (by intro w' hq;have hc0:=za hq f3;go_simp;try with_reducible rfl) ?_
 refine zh (i:=5) (v:=_) rfl rfl (by kernel_rfl) (by kernel_rfl) (fun _ _ _ h=>h) (by rfl) ?_ (fun w' hq=>HD.out w' (hEd.ofQ hq)) ?_
 ·(intro w' hq;go_simp;try with_reducible rfl)
 simp only[Act.put,zs1,zs2,zs3]
 refine zi (by kernel_rfl) (fun w3 hq3=>?_)
 simp only[List.drop_succ_cons,List.drop_zero]
 have hq4:Q W0 w3:=Q.trans hQ1 (Q.trans (Below.drew (Q.refl G1)) hq3)
 replace BF:=BF.keep (Q.trans (Below.drew (Q.refl G1)) hq3) BF.lt
 replace BZ:=BZ.keep (Q.trans (Below.drew (Q.refl G1)) hq3) BZ.lt
 clear hq3 hEd HW1 HD hz
 have hQ0:=Q.refl w3
 replace f0:=BF.cell 0
 replace f1:=BF.cell 1
 replace f2:=BF.cell 2
 replace f3:=BF.cell 3
 replace f4:=BF.cell 4
 simp only[zs4,zs5]at f0 f1 f2 f3 f4
 replace lBF:=BF.lt
 replace z0:=BZ.cell
 replace lBZ:=BZ.lt
 go_wp2_with fail
 have hEd:Env w3.drew:=hE0.ofQ (Q.trans hq4 bt)
 refine zm 11 rfl (by kernel_rfl) rfl ?_
 refine svp 0 ?_
 refine svp 1 ?_
 refine svq 2 rfl (by intro w' hq;have hc0:=za hq f4;go_simp;try with_reducible rfl) ?_
 refine svp 3 ?_
 refine svp 4 ?_
 refine svq 5 rfl (by intro w' hq;have hc0:=za hq f1;go_simp;try with_reducible rfl) ?_
 refine zh (i:=6) (v:=_) rfl rfl (by kernel_rfl) (by kernel_rfl) (fun _ _ _ h=>h) (by rfl) ?_ (fun w' hq=>HW2.out w' (hEd.ofQ hq)) ?_
 ·(intro w' hq;go_simp;try with_reducible rfl)
 simp only[Act.put,zs1,zs2,zs3]
 refine zh (i:=7) (v:=_) rfl rfl (by kernel_rfl) (by kernel_rfl) (fun _ _ _ h=>h) (by rfl) ?_ (fun w' hq=>HM.out w' (hEd.ofQ hq)) ?_
 ·(intro w' hq;go_simp;try with_reducible rfl)
 simp only[Act.put,zs1,zs2,zs3]
 refine zh (i:=8) (v:=_) rfl rfl (by kernel_rfl) (by kernel_rfl) (fun _ _ _ h=>h) (by rfl) ?_ (fun w' hq=>HS.out w' (hEd.ofQ hq)) ?_
 ·(intro w' hq;go_simp;try with_reducible rfl)
 simp only[Act.put,zs1,zs2,zs3]
 refine svp 9 ?_
 refine zaA (i:=10) (.cells #[.string ⟨#[]⟩,.string ⟨#[]⟩,.string ⟨#[]⟩] 89) rfl rfl (by kernel_rfl) (by rfl) (fun w' hq=>by go_simp;try with_reducible rfl) (fun w6 hq6=>?_)
 simp only[Act.put,zs1,zs2,zs3]
 have BP:=Blk.new w6 [.string ⟨#[]⟩,.string ⟨#[]⟩,.string ⟨#[]⟩] 89
 refine zi (by kernel_rfl) (fun w7 hq7=>?_)
 simp only[List.drop_succ_cons,List.drop_zero]
 have hqc:Q w3 w7:=Q.trans (Below.drew (Q.refl w3)) (Q.trans hq6 (Q.trans ((Below.refl _ w6).alloc (Nat.le_refl _) _) hq7))
 have hq6':Q w3 w6:=Q.trans (Below.drew (Q.refl w3)) hq6
 have lz6:w.heap.size+1<w6.heap.size:=Nat.lt_of_lt_of_le BZ.lt hq6'.size
 have lf6:w.heap.size<w6.heap.size:=by omega
 have P:=BP.keep hq7 (by simp)
 have hw7:Q w w7:=Q.trans hq0 (Q.trans hq4 hqc)
 replace BF:=BF.keep hqc BF.lt
 replace BZ:=BZ.keep hqc BZ.lt
 generalize w6.heap.size=p at *
 clear hq6 hq7 hqc hq6' BP hEd HW2 HM HS hQ0 hE0 hq0 hq1 hs1 hQ1 hq4
 have hnp:p≠w.heap.size+1:=by omega
 have hnf:p≠w.heap.size:=by omega
 obtain⟨V,hV⟩:∃ V,w7.setRow p ([.string ⟨#[48]⟩,.string ⟨RR.toArray⟩,.string ⟨BB.toArray⟩]:List Value).toArray=V:=⟨_,rfl⟩
 have PV:Blk V p [.string ⟨#[48]⟩,.string ⟨RR.toArray⟩,.string ⟨BB.toArray⟩] 89:=by rw[← hV];exact setRow_heap _ _ _ _ _ _ P
 have FV:=BF.setRow (fun e=>hnf e.symm) ([.string ⟨#[48]⟩,.string ⟨RR.toArray⟩,.string ⟨BB.toArray⟩]:List Value).toArray
 have ZV:=BZ.setRow (fun e=>hnp e.symm) ([.string ⟨#[48]⟩,.string ⟨RR.toArray⟩,.string ⟨BB.toArray⟩]:List Value).toArray
 rw[hV]at FV ZV
 have hwV:Q w V:=by rw[← hV];exact below_setRow hw7 (by omega) _
 have hQ0:=Q.refl V
 replace f0:=FV.cell 0
 replace f1:=FV.cell 1
 replace f2:=FV.cell 2
 replace f3:=FV.cell 3
 replace f4:=FV.cell 4
 simp only[zs4,zs5]at f0 f1 f2 f3 f4
 replace lFV:=FV.lt
 replace z0:=ZV.cell
 replace lZV:=ZV.lt
 replace p0:=PV.cell
 replace lPV:=PV.lt
 have pf:=PV.frozen
 have zf:=ZV.frozen
 clear BF BZ f0 f1 f2 f3 f4 z0
 have ff:=FV.cell
 have zz:=ZV.cell
 cases up
 ·go_wp2_with (refine zdZ rfl 89 (.tmp 5) (.tmp 29) rfl p 0 P [.string ⟨#[48]⟩,.string ⟨RR.toArray⟩,.string ⟨BB.toArray⟩] [.string ⟨#[48]⟩,.string ⟨RR.toArray⟩,.string ⟨BB.toArray⟩] rfl rfl (by simp) rfl (by kernel_rfl) (by simp[Value.oneCell']) ?_;rw[hV])
  have R:=((ZV.set 0 (.string ⟨#[48]⟩)).set 1 (.string ⟨RR.toArray⟩)).set 2 (.string ⟨BB.toArray⟩)
  simp only[List.set_cons_zero,List.set_cons_succ]at R
  have hQ:=((hwV.setCell (p:=⟨w.heap.size+1,0,none⟩) (by simp) (.string ⟨#[48]⟩)).setCell (p:=⟨w.heap.size+1,1,none⟩) (by simp) (.string ⟨RR.toArray⟩)).setCell (p:=⟨w.heap.size+1,2,none⟩) (by simp) (.string ⟨BB.toArray⟩)
  refine bodyPost_ret (zfW R Tryz.f88 2 3 rfl _ _ rfl rfl) rfl ⟨rfl,hQ⟩
 ·have R0:=((ZV.setOther hnp 0 (.string ⟨RR.toArray⟩)).setOther hnp 1 (.string ⟨#[48]⟩))
  have R:=((R0.set 0 (.string ⟨RR.toArray⟩)).set 1 (.string ⟨#[48]⟩)).set 2 (.string ⟨BB.toArray⟩)
  simp only[List.set_cons_zero,List.set_cons_succ]at R
  have hQ:=((((hwV.setCell (p:=⟨p,0,none⟩) (show w.heap.size≤p by omega) (.string ⟨RR.toArray⟩)).setCell (p:=⟨p,1,none⟩) (show w.heap.size≤p by omega) (.string ⟨#[48]⟩)).setCell (p:=⟨w.heap.size+1,0,none⟩) (by simp) (.string ⟨RR.toArray⟩)).setCell (p:=⟨w.heap.size+1,1,none⟩) (by simp) (.string ⟨#[48]⟩)).setCell (p:=⟨w.heap.size+1,2,none⟩) (by simp) (.string ⟨BB.toArray⟩)
  clear R0
  go_wp2_with (refine zdZ rfl 89 (.tmp 5) (.tmp 29) rfl p 0 P [.string ⟨#[48]⟩,.string ⟨RR.toArray⟩,.string ⟨BB.toArray⟩] [.string ⟨#[48]⟩,.string ⟨RR.toArray⟩,.string ⟨BB.toArray⟩] rfl rfl (by simp) rfl (by kernel_rfl) (by simp[Value.oneCell']) ?_;rw[hV])
  refine bodyPost_ret (zfW R Tryz.f88 2 3 rfl _ _ rfl rfl) rfl ⟨rfl,hQ⟩
theorem ztL(f:Fr):(frC f).length=5:=rfl
structure Sl3 where
 a:Option Addr
 n:Nat
 c:Nat
def Sl3.v(s:Sl3):Value:=.slice s.a s.n s.c
end
end Go.Proofs.YtjnhmfcklodfdaaGreatDoor
