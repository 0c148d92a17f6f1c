/-
  Walks of package front: the front of a side.; Walks of package front: the fronts of any plan.; Walks of package front: Check, start, Distance.; Walks of package joint: what is known of a rafter at an eaves of a plan.; Walks of package joint: Birdsmouth, Deepest, of whatever rafter at an eaves.; Lines that a function finds right, one by one.
-/
import Derived.Test.YtapnkgdnflofbaaGreatDoorCH18
import Derived.Test.YtapnkgdnflofbaaGreatDoorCH22
import Derived.Laws.CopyRow
import Derived.Laws.CopyOwn
set_option maxRecDepth 100000
set_option maxHeartbeats 4000000
namespace Go.Proofs.YtapnkgdnflofbaaGreatDoor
section
open Go.RowKit Go.Shelf Kp
attribute [local go_sem] Oper.semAt_some
theorem zn0(s n:Sd):zgs s n<4:=by
 unfold zgs
 split
 ·omega
 ·split
  ·omega
  ·split <;> omega
theorem Env.dirAt{w:World}(h:Env w){k:Nat}(hk:k<4):w.cell? ⟨1,k*2,none⟩=some (.bool (upF k))∧w.cell? ⟨1,k*2+1,none⟩=some (.int .i64 (zsW k)):=by
 obtain⟨t,f,hd⟩:=h.dirs
 have hc:∀ i,w.cell? ⟨1,i,none⟩=zrM[i]?:=fun i=>by simp[World.cell?,hd]
 rw[hc,hc]
 match k,hk with
 | 0,_=>exact⟨rfl,rfl⟩
 | 1,_=>exact⟨rfl,rfl⟩
 | 2,_=>exact⟨rfl,rfl⟩
 | 3,_=>exact⟨rfl,rfl⟩
theorem zcP{W:World}{b:Nat}{x y z u v:Value}(h:Blk W b [x,y,z,u,v] 113)(fn:Func)(m:Nat)(hf:fn.results=#[.cell m 113])(tmps:Array Value)(hp:tmps.getD m undef=.pointer (some ⟨b,0,none⟩)) :
  (results fn tmps).run Tryz.prog W=.ok (.agg #[x,y,z,u,v]) W:=by
 exact results_cell_row hf tmps W b _ #[x,y,z,u,v] (0,0) _ hp h Tryz.underlying113 rfl (by kernel_rfl)
theorem zrE(s n:Sd)(hs:Rgd s)(w:World)(hE:Env w) :
  CR 127 #[.agg (sdC s).toArray,.agg (sdC n).toArray] w (.agg (frC (ziZ s n)).toArray):=by
 have HH:=LH (fun w (_:Env w)=>zkZ s n w)
 have HP:=LH (fun w hw=>zbe s.plate 1 (by decide) (by have:=hs.p0;have:=hs.p1;omega) (by decide) w hw)
 rw[zjZ]at HP
 have HD:Hid (∀ W,Env W→W.cell? ⟨1,zgs s n*2,none⟩=some (.bool (upF (zgs s n)))∧W.cell? ⟨1,zgs s n*2+1,none⟩=some (.int .i64 (zsW (zgs s n)))):=LH (fun W hW=>hW.dirAt (zn0 s n))
 have hk4:=zn0 s n
 obtain⟨SP,hSP⟩:∃ SP,ze (if s.gable then(0:Rat)else Rat.divInt s.run s.rise)=SP:=⟨_,rfl⟩
 have H1:Hid (s.gable=true→SP=[48]):=LH (fun hg=>by rw[← hSP,if_pos hg];exact zaY)
 have HN:Hid (s.gable=false→∃ k:Nat,s.rise=k∧∀ W,Env W→CR 193 #[.int .i64 s.run,.int .i64 (k:Nat)] W (.tuple #[.string ⟨SP.toArray⟩,.int .i64 0])):=LH (fun hg=>by
  rw[← hSP,hg]
  have h1:=hs.n hg
  obtain⟨k,hk⟩:=Int.eq_ofNat_of_zero_le (show 0≤s.rise by omega)
  refine⟨k,hk,fun W hW=>?_⟩
  rw[hk]
  exact zbe s.run k (by omega) (by omega) (by omega) W hW)
 unfold ziZ frC
 simp only[hSP]
 clear hSP
 generalize zgs s n=hd at *
 generalize upF hd=up at *
 generalize zsW hd=dr at *
 obtain⟨x1,y1,r1,n1,g1,p1,o1⟩:=s
 obtain⟨x2,y2,r2,n2,g2,p2,o2⟩:=n
 simp only at HN H1 HP ⊢
 clear hs
 generalize ze (p1:Rat)=PL at *
 obtain⟨co,hco⟩:∃ co,(if up=true then x1 else y1)=co:=⟨_,rfl⟩
 rw[hco]
 have hdz:(hd:Int)<4:=by omega
 have hd0:(0:Int)≤hd:=by omega
 have BS:=((Blk.new w [.int .i64 x1,.int .i64 y1,.int .i64 r1,.int .i64 n1,.bool g1,.int .i64 p1,.int .i64 o1] 82).alloc (.cells #[.int .i64 x2,.int .i64 y2,.int .i64 r2,.int .i64 n2,.bool g2,.int .i64 p2,.int .i64 o2] 82)).alloc (.cells #[.bool false,.int .i64 0,.int .i64 0,.string ⟨#[]⟩,.string ⟨#[]⟩] 113)
 have BZ:=Blk.new ((w.alloc (.cells #[.int .i64 x1,.int .i64 y1,.int .i64 r1,.int .i64 n1,.bool g1,.int .i64 p1,.int .i64 o1] 82)).alloc (.cells #[.int .i64 x2,.int .i64 y2,.int .i64 r2,.int .i64 n2,.bool g2,.int .i64 p2,.int .i64 o2] 82)) [.bool false,.int .i64 0,.int .i64 0,.string ⟨#[]⟩,.string ⟨#[]⟩] 113
 rw[World.size_alloc,World.size_alloc]at BZ
 unfold sdC at *
 simp only
 have BN:=(Blk.new (w.alloc (.cells #[.int .i64 x1,.int .i64 y1,.int .i64 r1,.int .i64 n1,.bool g1,.int .i64 p1,.int .i64 o1] 82)) [.int .i64 x2,.int .i64 y2,.int .i64 r2,.int .i64 n2,.bool g2,.int .i64 p2,.int .i64 o2] 82).alloc (.cells #[.bool false,.int .i64 0,.int .i64 0,.string ⟨#[]⟩,.string ⟨#[]⟩] 113)
 rw[World.size_alloc]at BN
 obtain⟨W0,hW0⟩:∃ W0,((w.alloc (.cells #[.int .i64 x1,.int .i64 y1,.int .i64 r1,.int .i64 n1,.bool g1,.int .i64 p1,.int .i64 o1] 82)).alloc (.cells #[.int .i64 x2,.int .i64 y2,.int .i64 r2,.int .i64 n2,.bool g2,.int .i64 p2,.int .i64 o2] 82)).alloc (.cells #[.bool false,.int .i64 0,.int .i64 0,.string ⟨#[]⟩,.string ⟨#[]⟩] 113)=W0:=⟨_,rfl⟩
 have hq0:Q w W0:=by rw[← hW0];exact bt
 have hEw:=hE.ofQ hq0
 have hs0:W0.heap.size=w.heap.size+3:=by rw[← hW0];simp
 rw[hW0]at BS BN BZ
 clear hE
 have hE:=hEw
 clear hEw
 have hQ0:=Q.refl W0
 replace s0:=BS.cell
 replace lBS:=BS.lt
 replace t0:=BN.cell
 replace lBN:=BN.lt
 replace z0:=BZ.cell
 replace lBZ:=BZ.lt
 go_enter Tryz.func127,Tryz.ntmps127
 go_wp2_with fail
 clear hW0
 refine cx (HH.out _ (hE.ofQ bt)) fun Y1 hq1=>?_
 have hs1:Q W0 Y1:=Q.trans bt hq1
 have hQ1:Q W0 Y1:=Q.trans hQ0 hs1
 replace BS:=BS.keep hs1 BS.lt
 replace s0:=BS.cell
 replace lBS:=BS.lt
 replace BN:=BN.keep hs1 BN.lt
 replace t0:=BN.cell
 replace lBN:=BN.lt
 replace BZ:=BZ.keep hs1 BZ.lt
 replace z0:=BZ.cell
 replace lBZ:=BZ.lt
 obtain⟨d0,d1⟩:=HD.out _ (hE.ofQ hQ1)
 clear BN lBN t0
 have lY:=hQ1.size
 cases up <;> cases g1
 case false.false =>
  obtain rfl:y1=co:=hco
  have F:=Blk.new (Y1.alloc (.cells #[.bool false,.int .i64 dr] 251)) [.bool false,.int .i64 y1,.int .i64 dr,.string ⟨#[48]⟩,.string ⟨#[]⟩] 113
  rw[World.size_alloc]at F
  obtain⟨k,rfl,hN⟩:=HN.out rfl
  have HO:=LH hN
  clear hN
  clear HN HD HH H1
  have F1:=F
  clear F
  have BS1:=BS
  have BZ1:=BZ
  go_wp2_with fail
  refine cx (HO.out _ (hE.ofQ bt)) fun Y2 hq2=>?_
  have hs2:Q Y1 Y2:=Q.trans bt hq2
  replace BS:=BS.keep hs2 BS.lt
  replace BZ:=BZ.keep hs2 BZ.lt
  replace s0:=BS.cell
  replace z0:=BZ.cell
  replace F1:=F1.keep hq2 F1.lt
  have f0:=F1.cell
  have g3:=F1.frozen 3
  have F2:=F1.set 3 (.string ⟨SP.toArray⟩)
  simp only[List.set_cons_zero,List.set_cons_succ]at F2
  clear HO
  clear F1
  go_wp2_with fail
  clear f0 g3
  have hB2:Below Y1.heap.size Y1 (Y2.setCell ⟨Y1.heap.size+1,3,none⟩ (.string ⟨SP.toArray⟩)):=hs2.setCell (p:=⟨Y1.heap.size+1,3,none⟩) (by simp) _
  have hQ2s:Q W0 (Y2.setCell ⟨Y1.heap.size+1,3,none⟩ (.string ⟨SP.toArray⟩)):=Below.trans hQ1 (hB2.mono lY)
  refine cx (HP.out _ (hE.ofQ hQ2s)) fun Y3 hq3=>?_
  have hB3:Below Y1.heap.size Y1 Y3:=Below.trans hB2 (hq3.mono hB2.size)
  have hQ3:Q W0 Y3:=Below.trans hQ1 (hB3.mono lY)
  replace BS:=BS1.keep hB3 BS1.lt
  replace BZ:=BZ1.keep hB3 BZ1.lt
  replace s0:=BS.cell
  replace z0:=BZ.cell
  clear BS1 BZ1 hB2 hQ2s
  replace F2:=F2.keep hq3 F2.lt
  have f0:=F2.cell
  have g4:=F2.frozen 4
  have k0:=BZ.frozen 0
  have k1:=BZ.frozen 1
  have k2:=BZ.frozen 2
  have k3:=BZ.frozen 3
  have k4:=BZ.frozen 4
  have hne:Y1.heap.size+1≠w.heap.size+1+1:=by omega
  have hne2:w.heap.size+1+1≠Y1.heap.size+1:=by omega
  have hy:w.heap.size≤Y1.heap.size+1:=by omega
  have hy2:w.heap.size≤w.heap.size+1+1:=by omega
  generalize Y1.heap.size+1=bf at *
  generalize w.heap.size+1+1=bz at *
  have Z:=((((((BZ.setOther hne 4 (.string ⟨PL.toArray⟩)).set 0 (.bool false)).set 1 (.int .i64 y1)).set 2 (.int .i64 dr)).set 3 (.string ⟨SP.toArray⟩)).set 4 (.string ⟨PL.toArray⟩))
  simp only[List.set_cons_zero,List.set_cons_succ]at Z
  have hQe:=((((((Q.trans hq0 hQ3).setCell (p:=⟨bf,4,none⟩) hy (.string ⟨PL.toArray⟩)).setCell (p:=⟨bz,0,none⟩) hy2 (.bool false)).setCell (p:=⟨bz,1,none⟩) hy2 (.int .i64 y1)).setCell (p:=⟨bz,2,none⟩) hy2 (.int .i64 dr)).setCell (p:=⟨bz,3,none⟩) hy2 (.string ⟨SP.toArray⟩)).setCell (p:=⟨bz,4,none⟩) hy2 (.string ⟨PL.toArray⟩)
  clear HP F2
  have HR:=zcP Z
  go_wp2_with (exact bodyPost_ret (HR Tryz.f127 4 rfl _ rfl) rfl ⟨rfl,hQe⟩)
 case false.true =>
  obtain rfl:y1=co:=hco
  have F:=Blk.new (Y1.alloc (.cells #[.bool false,.int .i64 dr] 251)) [.bool false,.int .i64 y1,.int .i64 dr,.string ⟨#[48]⟩,.string ⟨#[]⟩] 113
  rw[World.size_alloc]at F
  obtain rfl:=H1.out rfl
  clear HN HD HH H1
  have F1:=F
  clear F
  have F2:=F1
  clear F1
  go_wp2_with fail
  refine cx (HP.out _ (hE.ofQ bt)) fun Y3 hq3=>?_
  have hB3:Q Y1 Y3:=Q.trans bt hq3
  have hQ3:Q W0 Y3:=Q.trans hQ1 hB3
  replace BS:=BS.keep hB3 BS.lt
  replace BZ:=BZ.keep hB3 BZ.lt
  replace s0:=BS.cell
  replace z0:=BZ.cell
  replace F2:=F2.keep hq3 F2.lt
  have f0:=F2.cell
  have g4:=F2.frozen 4
  have k0:=BZ.frozen 0
  have k1:=BZ.frozen 1
  have k2:=BZ.frozen 2
  have k3:=BZ.frozen 3
  have k4:=BZ.frozen 4
  have hne:Y1.heap.size+1≠w.heap.size+1+1:=by omega
  have hne2:w.heap.size+1+1≠Y1.heap.size+1:=by omega
  have hy:w.heap.size≤Y1.heap.size+1:=by omega
  have hy2:w.heap.size≤w.heap.size+1+1:=by omega
  generalize Y1.heap.size+1=bf at *
  generalize w.heap.size+1+1=bz at *
  have Z:=((((((BZ.setOther hne 4 (.string ⟨PL.toArray⟩)).set 0 (.bool false)).set 1 (.int .i64 y1)).set 2 (.int .i64 dr)).set 3 (.string ⟨#[48]⟩)).set 4 (.string ⟨PL.toArray⟩))
  simp only[List.set_cons_zero,List.set_cons_succ]at Z
  have hQe:=((((((Q.trans hq0 hQ3).setCell (p:=⟨bf,4,none⟩) hy (.string ⟨PL.toArray⟩)).setCell (p:=⟨bz,0,none⟩) hy2 (.bool false)).setCell (p:=⟨bz,1,none⟩) hy2 (.int .i64 y1)).setCell (p:=⟨bz,2,none⟩) hy2 (.int .i64 dr)).setCell (p:=⟨bz,3,none⟩) hy2 (.string ⟨#[48]⟩)).setCell (p:=⟨bz,4,none⟩) hy2 (.string ⟨PL.toArray⟩)
  clear HP F2
  have HR:=zcP Z
  go_wp2_with (exact bodyPost_ret (HR Tryz.f127 4 rfl _ rfl) rfl ⟨rfl,hQe⟩)
 case true.false =>
  obtain rfl:x1=co:=hco
  have F:=Blk.new (Y1.alloc (.cells #[.bool true,.int .i64 dr] 251)) [.bool true,.int .i64 x1,.int .i64 dr,.string ⟨#[48]⟩,.string ⟨#[]⟩] 113
  rw[World.size_alloc]at F
  obtain⟨k,rfl,hN⟩:=HN.out rfl
  have HO:=LH hN
  clear hN
  clear HN HD HH H1
  have F1:=F
  clear F
  have BS1:=BS
  have BZ1:=BZ
  go_wp2_with fail
  refine cx (HO.out _ (hE.ofQ bt)) fun Y2 hq2=>?_
  have hs2:Q Y1 Y2:=Q.trans bt hq2
  replace BS:=BS.keep hs2 BS.lt
  replace BZ:=BZ.keep hs2 BZ.lt
  replace s0:=BS.cell
  replace z0:=BZ.cell
  replace F1:=F1.keep hq2 F1.lt
  have f0:=F1.cell
  have g3:=F1.frozen 3
  have F2:=F1.set 3 (.string ⟨SP.toArray⟩)
  simp only[List.set_cons_zero,List.set_cons_succ]at F2
  clear HO
  clear F1
  go_wp2_with fail
  clear f0 g3
  have hB2:Below Y1.heap.size Y1 (Y2.setCell ⟨Y1.heap.size+1,3,none⟩ (.string ⟨SP.toArray⟩)):=hs2.setCell (p:=⟨Y1.heap.size+1,3,none⟩) (by simp) _
  have hQ2s:Q W0 (Y2.setCell ⟨Y1.heap.size+1,3,none⟩ (.string ⟨SP.toArray⟩)):=Below.trans hQ1 (hB2.mono lY)
  refine cx (HP.out _ (hE.ofQ hQ2s)) fun Y3 hq3=>?_
  have hB3:Below Y1.heap.size Y1 Y3:=Below.trans hB2 (hq3.mono hB2.size)
  have hQ3:Q W0 Y3:=Below.trans hQ1 (hB3.mono lY)
  replace BS:=BS1.keep hB3 BS1.lt
  replace BZ:=BZ1.keep hB3 BZ1.lt
  replace s0:=BS.cell
  replace z0:=BZ.cell
  clear BS1 BZ1 hB2 hQ2s
  replace F2:=F2.keep hq3 F2.lt
  have f0:=F2.cell
  have g4:=F2.frozen 4
  have k0:=BZ.frozen 0
  have k1:=BZ.frozen 1
  have k2:=BZ.frozen 2
  have k3:=BZ.frozen 3
  have k4:=BZ.frozen 4
  have hne:Y1.heap.size+1≠w.heap.size+1+1:=by omega
  have hne2:w.heap.size+1+1≠Y1.heap.size+1:=by omega
  have hy:w.heap.size≤Y1.heap.size+1:=by omega
  have hy2:w.heap.size≤w.heap.size+1+1:=by omega
  generalize Y1.heap.size+1=bf at *
  generalize w.heap.size+1+1=bz at *
  have Z:=((((((BZ.setOther hne 4 (.string ⟨PL.toArray⟩)).set 0 (.bool true)).set 1 (.int .i64 x1)).set 2 (.int .i64 dr)).set 3 (.string ⟨SP.toArray⟩)).set 4 (.string ⟨PL.toArray⟩))
  simp only[List.set_cons_zero,List.set_cons_succ]at Z
  have hQe:=((((((Q.trans hq0 hQ3).setCell (p:=⟨bf,4,none⟩) hy (.string ⟨PL.toArray⟩)).setCell (p:=⟨bz,0,none⟩) hy2 (.bool true)).setCell (p:=⟨bz,1,none⟩) hy2 (.int .i64 x1)).setCell (p:=⟨bz,2,none⟩) hy2 (.int .i64 dr)).setCell (p:=⟨bz,3,none⟩) hy2 (.string ⟨SP.toArray⟩)).setCell (p:=⟨bz,4,none⟩) hy2 (.string ⟨PL.toArray⟩)
  clear HP F2
  have HR:=zcP Z
  go_wp2_with (exact bodyPost_ret (HR Tryz.f127 4 rfl _ rfl) rfl ⟨rfl,hQe⟩)
 case true.true =>
  obtain rfl:x1=co:=hco
  have F:=Blk.new (Y1.alloc (.cells #[.bool true,.int .i64 dr] 251)) [.bool true,.int .i64 x1,.int .i64 dr,.string ⟨#[48]⟩,.string ⟨#[]⟩] 113
  rw[World.size_alloc]at F
  obtain rfl:=H1.out rfl
  clear HN HD HH H1
  have F1:=F
  clear F
  have F2:=F1
  clear F1
  go_wp2_with fail
  refine cx (HP.out _ (hE.ofQ bt)) fun Y3 hq3=>?_
  have hB3:Q Y1 Y3:=Q.trans bt hq3
  have hQ3:Q W0 Y3:=Q.trans hQ1 hB3
  replace BS:=BS.keep hB3 BS.lt
  replace BZ:=BZ.keep hB3 BZ.lt
  replace s0:=BS.cell
  replace z0:=BZ.cell
  replace F2:=F2.keep hq3 F2.lt
  have f0:=F2.cell
  have g4:=F2.frozen 4
  have k0:=BZ.frozen 0
  have k1:=BZ.frozen 1
  have k2:=BZ.frozen 2
  have k3:=BZ.frozen 3
  have k4:=BZ.frozen 4
  have hne:Y1.heap.size+1≠w.heap.size+1+1:=by omega
  have hne2:w.heap.size+1+1≠Y1.heap.size+1:=by omega
  have hy:w.heap.size≤Y1.heap.size+1:=by omega
  have hy2:w.heap.size≤w.heap.size+1+1:=by omega
  generalize Y1.heap.size+1=bf at *
  generalize w.heap.size+1+1=bz at *
  have Z:=((((((BZ.setOther hne 4 (.string ⟨PL.toArray⟩)).set 0 (.bool true)).set 1 (.int .i64 x1)).set 2 (.int .i64 dr)).set 3 (.string ⟨#[48]⟩)).set 4 (.string ⟨PL.toArray⟩))
  simp only[List.set_cons_zero,List.set_cons_succ]at Z
  have hQe:=((((((Q.trans hq0 hQ3).setCell (p:=⟨bf,4,none⟩) hy (.string ⟨PL.toArray⟩)).setCell (p:=⟨bz,0,none⟩) hy2 (.bool true)).setCell (p:=⟨bz,1,none⟩) hy2 (.int .i64 x1)).setCell (p:=⟨bz,2,none⟩) hy2 (.int .i64 dr)).setCell (p:=⟨bz,3,none⟩) hy2 (.string ⟨#[48]⟩)).setCell (p:=⟨bz,4,none⟩) hy2 (.string ⟨PL.toArray⟩)
  clear HP F2
  have HR:=zcP Z
  go_wp2_with (exact bodyPost_ret (HR Tryz.f127 4 rfl _ rfl) rfl ⟨rfl,hQe⟩)
theorem zqm:(Tryz.prog.info? 113).map (fun i=>(i.zero,i.size,i.bytes))=some (some (.agg #[.bool false,.int .i64 0,.int .i64 0,.string ⟨#[]⟩,.string ⟨#[]⟩]),5,56):=by kernel_rfl
def ztY(r:List Sd)(i:Nat):Fr:=ziZ (zcf r i) (zcf r ((i+1) % r.length))
def frN(r:List Sd)(k:Nat):List Value:=(List.range k).flatMap fun i=>frC (ztY r i)
theorem zrG(r:List Sd)(k:Nat):frN r (k+1)=frN r k++frC (ztY r k):=by unfold frN;rw[List.range_succ,List.flatMap_append];simp
def frR(R:List (List Sd))(k:Nat):List Value:=rowOf frC (za2 (R.take k))
theorem zsQ(r:List Sd):frN r r.length=rowOf frC (znH r):=by
 unfold frN rowOf znH
 rw[List.flatMap_map]
 rfl
theorem zrF{R:List (List Sd)}{k:Nat}(h:k<R.length):frR R (k+1)=frR R k++frN (ringAt R k) (ringAt R k).length:=by
 rw[zsQ]
 unfold frR
 rw[List.take_succ_eq_append_getElem h,zaE h]
 unfold za2 rowOf
 rw[List.flatMap_append,List.flatMap_append]
 simp
theorem zsP(R:List (List Sd)):frR R R.length=rowOf frC (za2 R):=by unfold frR;rw[List.take_length]
theorem zqy(R:List (List Sd))(h:zdb R=0)(hn:R.length≤1000)(v:Value)(w:World)(hE:Env w)(hv:zi9 w v R) :
  Calls Tryz.prog 61 #[.agg #[v]] w fun e w'=>∃ v',e=.returned (.tuple #[v',.int .i64 0])∧w'.ownsRow w.heap.size 113 5 v' R.flatten.length (rowOf frC (za2 R))∧Q w w':=by
 have ok:=zgc h
 have hle:=ok.le
 rw[← zsP,count_flatten,← zn3]
 have HK:Hid (∀ W,Q w W→CR 125 #[.agg #[v]] W (.int .i64 0)):=LH (fun W hq=>by
  have:=zjK R hn (by omega) v W (hv.keep hq)
  rw[h]at this
  exact this)
 have HRI:Hid (∀ W,Q w W→∃ a cap,v=.slice a R.length cap∧∀ i,i<R.length→∃ b o a2 c2,a=some ⟨b,o,none⟩∧W.cell? ⟨b,o+i,none⟩=some (.slice a2 (ringAt R i).length c2)∧zci W a2 (ringAt R i)∧∀ k∈zbM a2,k<W.heap.size):=LH (fun W hq=>(hv.keep hq).ring (fun r hr=>by have:=ok.four r hr;omega))
 have HRW:Hid (∀ i,i<R.length→0<(ringAt R i).length∧(ringAt R i).length≤24∧∀ s∈ringAt R i,Rgd s):=LH (fun i hi=>by
  have hm:ringAt R i∈R:=by rw[zaE hi];exact List.getElem_mem hi
  have h4:=ok.four _ hm
  exact⟨by omega,Nat.le_trans (zpR hm) hle,fun s hs=>ok.rg s (List.mem_flatten.2 ⟨_,hm,hs⟩)⟩)
 have HS1:Hid (∀ k,k<R.length→zk0 R (k+1)=zk0 R k+(ringAt R k).length):=LH (fun k hk=>zmk hk)
 have HSl:Hid (∀ k,zk0 R k≤24):=LH (fun k=>Nat.le_trans (zqO R k) hle)
 have HF1:Hid (∀ k,k<R.length→frR R (k+1)=frR R k++frN (ringAt R k) (ringAt R k).length):=LH (fun k hk=>zrF hk)
 obtain⟨a0,cap0,rfl,-⟩:=id hv
 clear ok h hv hle
 have hRz:(R.length:Int)≤1000:=by omega
 obtain⟨c0,ci,cz0,cz1,cz2⟩:=zbU zqm
 have B:=Blk.new w [.slice a0 R.length cap0] 48
 have hq1:Q w (w.alloc (.cells [Value.slice a0 R.length cap0].toArray 48)):=(Below.refl _ w).alloc (Nat.le_refl _) _
 have k0:=B.cell
 go_enter Tryz.func61,Tryz.ntmps61
 go_wp2_with fail
 refine cx (HK.out _ hq1) fun w2 hq=>?_
 replace B:=B.keep hq B.lt
 replace k0:=B.cell
 have hq2:=Q.trans hq1 hq
 have hsz:w.heap.size+1≤w2.heap.size:=by have:=hq.size;simpa using this
 clear hq hq1 HK
 go_wp2
 go_loopw [15,4] (fun i o wr=>∃ k:Nat,k≤R.length∧i=.int .i64 k∧wr.ownsRow w.heap.size 113 5 o (zk0 R k) (frR R k)∧Q w wr∧w.heap.size+1≤wr.heap.size) (fun i _ _=>R.length - (intOf i).toNat)
 case atStart=>exact⟨0,by omega,rfl,World.ownsRow_nil _ _ _ _,hq2,hsz⟩
 case round =>
  obtain⟨g,hg,rfl,howg,hQg,hszg⟩:=hrel
  by_cases hgl:g<R.length
  ·obtain⟨a',cap',he,hcg⟩:=HRI.out w (Q.refl w)
   obtain⟨b1,o1,a2,c2,ha,hcell,hrow,-⟩:=hcg g hgl
   injection he with he1 he2 he3
   subst he1 he3
   subst ha
   obtain⟨hl0,hl24,hrg⟩:=HRW.out g hgl
   replace hcell:=za hQg hcell
   have HR:=LH hrow
   have HRG:=LH hrg
   have HSg:=LH (HS1.out g hgl)
   have HFg:=LH (HF1.out g hgl)
   have hcg24:=HSl.out (g+1)
   rw[HSg.out]at hcg24
   have hlz:((ringAt R g).length:Int)≤24:=by omega
   have hz1:(0:Int)<(ringAt R g).length:=by omega
   have hgz:(g:Int)<R.length:=by omega
   have hg0:(0:Int)≤g:=by omega
   obtain⟨P,hP⟩:∃ P,frR R g=P:=⟨_,rfl⟩
   obtain⟨p,hp⟩:∃ p,zk0 R g=p:=⟨_,rfl⟩
   rw[hP]at howg HFg
   rw[hp]at howg HSg hcg24
   have HP0:Hid (P=P++frN (ringAt R g) 0):=LH (by unfold frN;simp)
   clear hP hp hcg hrow hrg
   generalize ringAt R g=r at *
   generalize u4=og at *
   generalize wr=WG at *
   go_wp2
   go_loopw [21,4] (fun i o wr=>∃ k:Nat,k≤r.length∧i=.int .i64 k∧wr.ownsRow w.heap.size 113 5 o (p+k) (P++frN r k)∧Q w wr∧w.heap.size+1≤wr.heap.size) (fun i _ _=>r.length - (intOf i).toNat)
   case atStart=>exact⟨0,by omega,rfl,by rw[← HP0.out];exact howg,hQg,hszg⟩
   case round =>
    obtain⟨k,hk,rfl,hown,hQ,hsz'⟩:=hrel
    by_cases hlt:k<r.length
    ·obtain⟨b,o,rfl,hc⟩:=(HR.out.q hQ) k hlt
     obtain⟨b',o',he,hd⟩:=(HR.out.q hQ) ((k+1) % r.length) (Nat.mod_lt _ hl0)
     injection he with he
     injection he with he1 he2
     subst he1 he2
     obtain⟨q,hq'⟩:∃ q,(k+1) % r.length=q:=⟨_,rfl⟩
     have hqn:q<r.length:=by rw[← hq'];exact Nat.mod_lt _ hl0
     have e1:=Go.IntWalk.i64_in ((k:Int)+1) (by omega)
     have e2:((k:Int)+1).tmod (r.length:Int)=(q:Int):=by
      rw[Int.tmod_eq_emod_of_nonneg (by omega),show ((k:Int)+1)=((k+1:Nat):Int) by omega,← hq'];exact(Int.natCast_emod _ _).symm
     have hkz:(k:Int)<r.length:=by omega
     have hk0:(0:Int)≤k:=by omega
     have hqz:(q:Int)<r.length:=by omega
     have hq0:(0:Int)≤q:=by omega
     have hnz:¬ r=[]:=by
      intro h
      rw[h]at hl0
      simp at hl0
     have HF:=LH (fun W hW=>zrE (zcf r k) (zcf r q) (HRG.out _ (znD hlt)) W hW)
     have HS:Hid (P++frN r (k+1)=P++(frN r k++frC (ziZ (zcf r k) (zcf r q)))):=LH (by rw[zrG,ztY,hq'])
     rw[hq']at hd
     generalize ziZ (zcf r k) (zcf r q)=f at *
     generalize zcf r k=s at *
     generalize zcf r q=t at *
     unfold frC at HF HS
     unfold sdC at hc hd HF
     have d0:=hc 0 _ rfl
     have d1:=hc 1 _ rfl
     have d2:=hc 2 _ rfl
     have d3:=hc 3 _ rfl
     have d4:=hc 4 _ rfl
     have d5:=hc 5 _ rfl
     have d6:=hc 6 _ rfl
     have n0:=hd 0 _ rfl
     have n1:=hd 1 _ rfl
     have n2:=hd 2 _ rfl
     have n3:=hd 3 _ rfl
     have n4:=hd 4 _ rfl
     have n5:=hd 5 _ rfl
     have n6:=hd 6 _ rfl
     rw[Nat.add_zero]at d0 n0
     clear hc hd
     have M:=Blk.new wr [.int .i64 s.x,.int .i64 s.y,.int .i64 s.rise,.int .i64 s.run,.bool s.gable,.int .i64 s.plate,.int .i64 s.over] 82
     have hqa:Q wr (wr.alloc (.cells [Value.int .i64 s.x,.int .i64 s.y,.int .i64 s.rise,.int .i64 s.run,.bool s.gable,.int .i64 s.plate,.int .i64 s.over].toArray 82)):=(Below.refl _ wr).alloc (Nat.le_refl _) _
     obtain⟨W1,hW1⟩:∃ W1,wr.alloc (.cells #[.int .i64 s.x,.int .i64 s.y,.int .i64 s.rise,.int .i64 s.run,.bool s.gable,.int .i64 s.plate,.int .i64 s.over] 82)=W1:=⟨_,rfl⟩
     have hW1':wr.alloc (.cells [Value.int .i64 s.x,.int .i64 s.y,.int .i64 s.rise,.int .i64 s.run,.bool s.gable,.int .i64 s.plate,.int .i64 s.over].toArray 82)=W1:=hW1
     rw[hW1']at M hqa
     clear hW1'
     go_wp2_with fail
     try rw[hW1]
     clear hW1
     have hEd:Env W1.drew:=(hE.ofQ (Q.trans hQ (Q.trans hqa (Below.drew (Q.refl W1)))))
     have hqd:Q wr W1.drew:=Q.trans hqa (Below.drew (Q.refl W1))
     have m0:=M.drew.cell 0
     have m1:=M.drew.cell 1
     have m2:=M.drew.cell 2
     have m3:=M.drew.cell 3
     have m4:=M.drew.cell 4
     have m5:=M.drew.cell 5
     have m6:=M.drew.cell 6
     simp only[zs4,zs5]at m0 m1 m2 m3 m4 m5 m6
     replace n0:=za hqd n0
     replace n1:=za hqd n1
     replace n2:=za hqd n2
     replace n3:=za hqd n3
     replace n4:=za hqd n4
     replace n5:=za hqd n5
     replace n6:=za hqd n6
     clear d0 d1 d2 d3 d4 d5 d6
     refine RF.zn (ρ:=zrw W1.drew.heap.size) 12 (by kernel_rfl) (by kernel_rfl) rfl ?_
     refine RF.svp 0 ?_
     refine RF.svq 1 rfl (by intro w' hq;have hc0:=za (hq (Nat.le_refl _)) m0;have hc1:=za (hq (Nat.le_refl _)) m1;have hc2:=za (hq (Nat.le_refl _)) m2;have hc3:=za (hq (Nat.le_refl _)) m3;have hc4:=za (hq (Nat.le_refl _)) m4;have hc5:=za (hq (Nat.le_refl _)) m5;have hc6:=za (hq (Nat.le_refl _)) m6;go_simp;try with_reducible rfl) ?_
     refine RF.svp 2 ?_
     refine RF.svp 3 ?_
     refine RF.svp 4 ?_
     refine RF.svp 5 ?_
     refine RF.svp 6 ?_
     refine RF.svp 7 ?_
     refine RF.svp 8 ?_
     refine RF.svq 9 rfl (by intro w' hq;have hc0:=za (hq (Nat.le_refl _)) n0;have hc1:=za (hq (Nat.le_refl _)) n1;have hc2:=za (hq (Nat.le_refl _)) n2;have hc3:=za (hq (Nat.le_refl _)) n3;have hc4:=za (hq (Nat.le_refl _)) n4;have hc5:=za (hq (Nat.le_refl _)) n5;have hc6:=za (hq (Nat.le_refl _)) n6;go_simp;try with_reducible rfl) ?_
     refine RF.zk (i:=10) (v:=_) rfl rfl (by kernel_rfl) (by kernel_rfl) (fun _ _ _ h=>h) (by rfl) ?_ (fun w' hq=>HF.out w' (hEd.ofQ (hq (Nat.le_refl _)))) ?_
     ·(intro w' hq;go_simp;try with_reducible rfl)
     simp only[Act.put,zs1,zs2,zs3]
     refine RF.zaH (i:=11) (fun w'=>.slice (some ⟨w'.heap.size,0,none⟩) 1 1) (.cells #[.bool f.up,.int .i64 f.coord,.int .i64 f.dir,.string ⟨(ze f.speed).toArray⟩,.string ⟨(ze f.start).toArray⟩] 113) rfl rfl (by kernel_rfl) (by rfl) (fun w' hq=>by go_simp;try with_reducible rfl) (fun w3 hq3=>?_)
     simp only[Act.put,zs1,zs2,zs3]
     refine RF.zh (by kernel_rfl) (fun w5 hq5=>?_)
     simp only[List.drop_succ_cons,List.drop_zero]
     have T:=(Blk.new w3 [.bool f.up,.int .i64 f.coord,.int .i64 f.dir,.string ⟨(ze f.speed).toArray⟩,.string ⟨(ze f.start).toArray⟩] 113).keep hq5 (by simp)
     have hq35:Q wr w5:=Q.trans hqd (Q.trans hq3 (Q.trans ((Below.refl _ w3).alloc (Nat.le_refl _) _) hq5))
     have hown5:=zi hown hq35
     have hQ5:=Q.trans hQ hq35
     have hsz5:=Nat.le_trans hsz' hq35.size
     clear hq3 hq5 m0 m1 m2 m3 m4 m5 m6 n0 n1 n2 n3 n4 n5 n6 HF M hown hqa hqd hEd
     generalize w3.heap.size=t3 at *
     go_wp2_with (at_builtin;refine wpList_append_own_at _ rfl (.tmp 26) (.tmp 37) 76 rfl w.heap.size 113 c0 _ 5 56 Tryz.underlying76 ci cz0 cz1 cz2 rfl (by decide) u4 (p+k) (P++frN r k) rfl hown5 ⟨t3,0,none⟩ 1 1 [.bool f.up,.int .i64 f.coord,.int .i64 f.dir,.string ⟨(ze f.speed).toArray⟩,.string ⟨(ze f.start).toArray⟩] rfl rfl (fun j z hj=>by rw[Addr.add_lit,Nat.zero_add];exact(T.cell j).trans hj) (by
      intro z hz
      simp only[List.mem_cons,List.not_mem_nil,or_false]at hz
      rcases hz with rfl | rfl | rfl | rfl | rfl <;> rfl) (by unfold maxLen;omega) (by omega) (by omega) ?_)
     intro v9 w9 hown9 hgrow9 _ _
     have hQ9:Q w w9:=hQ5.grown hgrow9 (by omega) (fun j hj=>(hown5.lt j hj).1)
     have hsz9:=Nat.le_trans hsz5 hgrow9.size
     rw[← HS.out]at hown9
     clear hown5 hgrow9 T hq35 HS
     go_wp2
     go_roundw
     case rel=>exact⟨k+1,by omega,by go_num,hown9,hQ9,hsz9⟩
     case measure=>simp[intOf];omega
    ·obtain rfl:k=r.length:=by omega
     go_wp2
     go_roundw
     case rel=>exact⟨g+1,by omega,by go_num,by rw[HSg.out,HFg.out];exact hown,hQ,hsz'⟩
     case measure=>simp[intOf];omega
  ·obtain rfl:g=R.length:=by omega
   go_wp2
   go_ret2
   exact⟨_,rfl,howg,hQg⟩
theorem znh(f:Fr)(h:FrOk f)(w:World)(hE:Env w) :
  CR 128 #[.agg (frC f).toArray] w (.int .i64 0):=by
 have HS:=LH (fun w hw=>zA f.speed (h.s.zam (by decide)) w hw)
 have HT:=LH (fun w hw=>zA f.start (h.p.zam (by decide)) w hw)
 have HU:=LH (fun w hw=>zht f.speed (h.s.mono (by decide)) w hw)
 have HV:=LH (fun w hw=>zht f.start (h.p.mono (by decide)) w hw)
 have HP:=LH (fun w=>zW (ze f.speed) w)
 have hneg:decide ((ze f.speed).head? = some 45)=false:=by rw[decide_eq_false_iff_not,zfW];have:=h.s0;omega
 rw[hneg]at HP
 have hd:=h.d
 have h0:=h.c0
 have h1:=h.c1
 clear h hneg
 unfold frC
 generalize ze f.speed=S at *
 generalize ze f.start=T at *
 obtain⟨up,co,dr,sp,st⟩:=f
 simp only at h0 h1 hd ⊢
 have e1:decide (co<0)=false:=by rw[decide_eq_false_iff_not];omega
 have e2:decide ((65536:Int)<co)=false:=by rw[decide_eq_false_iff_not];omega
 have B:=(Blk.new w [.bool up,.int .i64 co,.int .i64 dr,.string ⟨S.toArray⟩,.string ⟨T.toArray⟩] 113).alloc (.cells #[.string ⟨S.toArray⟩,.string ⟨T.toArray⟩] 30)
 have N:=Blk.new (w.alloc (.cells #[.bool up,.int .i64 co,.int .i64 dr,.string ⟨S.toArray⟩,.string ⟨T.toArray⟩] 113)) [.string ⟨S.toArray⟩,.string ⟨T.toArray⟩] 30
 rw[World.size_alloc]at N
 obtain⟨W0,hW0⟩:∃ W0,(w.alloc (.cells #[.bool up,.int .i64 co,.int .i64 dr,.string ⟨S.toArray⟩,.string ⟨T.toArray⟩] 113)).alloc (.cells #[.string ⟨S.toArray⟩,.string ⟨T.toArray⟩] 30)=W0:=⟨_,rfl⟩
 have hq0:Q w W0:=by rw[← hW0];exact bt
 have hEw:=hE.ofQ hq0
 rw[hW0]at B N
 clear hE
 have hE:=hEw
 clear hEw
 rcases hd with rfl | rfl
 all_goals
  have hQ0:=Q.refl W0
  replace b0:=B.cell
  replace lB:=B.lt
  replace n0:=N.cell
  replace lN:=N.lt
  go_enter Tryz.func128,Tryz.ntmps128
  go_wp2
  refine wp_loop_rounds 3 ?_
  rw[rounds_succ]
  clear hW0
  go_wp2_with fail
  refine cx (HS.out _ (hE.ofQ bt)) fun Y1 hq1=>?_
  have hs1:Q W0 Y1:=Q.trans bt hq1
  have hQ1:Q W0 Y1:=Q.trans hQ0 hs1
  replace B:=B.keep hs1 B.lt
  replace b0:=B.cell
  replace lB:=B.lt
  replace N:=N.keep hs1 N.lt
  replace n0:=N.cell
  replace lN:=N.lt
  go_wp2
  rw[rounds_succ]
  go_wp2_with fail
  refine cx (HT.out _ (hE.ofQ bt)) fun Y2 hq2=>?_
  have hs2:Q Y1 Y2:=Q.trans bt hq2
  have hQ2:Q W0 Y2:=Q.trans hQ1 hs2
  replace B:=B.keep hs2 B.lt
  replace b0:=B.cell
  replace lB:=B.lt
  replace N:=N.keep hs2 N.lt
  replace n0:=N.cell
  replace lN:=N.lt
  go_wp2
  rw[rounds_succ]
  clear N lN n0
  obtain⟨W2,hW2⟩:∃ W2,Y2.alloc (.cells #[.string ⟨S.toArray⟩,.string ⟨T.toArray⟩] 30)=W2:=⟨_,rfl⟩
  have N:=Blk.new Y2 [.string ⟨S.toArray⟩,.string ⟨T.toArray⟩] 30
  have N:Blk W2 Y2.heap.size [.string ⟨S.toArray⟩,.string ⟨T.toArray⟩] 30:=by rw[← hW2];exact N
  have hqW:Q Y2 W2:=by rw[← hW2];exact bt
  have hE2:=hE.ofQ (Q.trans hQ2 hqW)
  have hQW:=Q.trans hQ2 hqW
  have bb3:=B.cell
  replace B:=B.keep hqW B.lt
  clear hE
  have hE:=hE2
  clear hE2
  have hQ0:=Q.refl W2
  replace b0:=B.cell
  replace lB:=B.lt
  replace n0:=N.cell
  replace lN:=N.lt
  go_wp2
  refine wp_loop_rounds 3 ?_
  rw[rounds_succ]
  clear hW2
  go_wp2_with fail
  refine cx (HU.out _ (hE.ofQ bt)) fun Z1 hq1=>?_
  have hs1:Q W2 Z1:=Q.trans bt hq1
  have hQ1:Q W2 Z1:=Q.trans hQ0 hs1
  replace B:=B.keep hs1 B.lt
  replace b0:=B.cell
  replace lB:=B.lt
  replace N:=N.keep hs1 N.lt
  replace n0:=N.cell
  replace lN:=N.lt
  go_wp2
  rw[rounds_succ]
  go_wp2_with fail
  refine cx (HV.out _ (hE.ofQ bt)) fun Z2 hq2=>?_
  have hs2:Q Z1 Z2:=Q.trans bt hq2
  have hQ2:Q W2 Z2:=Q.trans hQ1 hs2
  replace B:=B.keep hs2 B.lt
  replace b0:=B.cell
  replace lB:=B.lt
  replace N:=N.keep hs2 N.lt
  replace n0:=N.cell
  replace lN:=N.lt
  go_wp2
  rw[rounds_succ]
  go_wp2_with fail
  refine(HP.out _).mono ?_
  rintro e w9⟨rfl,rfl⟩
  have hQe:Q w Z2:=Q.trans hq0 (Q.trans hQW hQ2)
  go_wp2
  go_ret
  exact⟨rfl,hQe⟩
theorem zsR(f:Fr):(frC f).length=5:=rfl
structure Sl3 where
 a:Option Addr
 n:Nat
 c:Nat
def Sl3.v(s:Sl3):Value:=.slice s.a s.n s.c
theorem ztU(a b c d e f:Nat):∃ M:Int,(∀ w,(Builtin.max_ #[3,3,3,3,3,3] 3 #[.int .i64 a,.int .i64 b,.int .i64 c,.int .i64 d,.int .i64 e,.int .i64 f]).run Tryz.prog w=.ok (.int .i64 M) w)∧(M≤6 ↔ (a≤6∧b≤6∧c≤6)∧d≤6∧e≤6∧f≤6):=by
 have h:∀ x y:Int,(if y > x then y else x)=max x y:=fun x y=>by
  rw[Int.max_def]
  split <;> split <;> omega
 refine⟨max (max (max (max (max (a:Int) b) c) d) e) f,fun w=>?_,?_⟩
 ·simp only[Builtin.max_,Builtin.max2,List.foldlM_cons,List.foldlM_nil,Sem.run_bind,Sem.run_pure,Result.andThen_ok,h]
 ·omega
theorem zsS(x:Ln)(w:World)(hE:Env w) :
  Calls Tryz.prog 13 #[.agg (lnC x).toArray] w fun e w'=>∃ b,e=.returned (.bool b)∧Q w w'∧(b=false→LnR x):=by
 obtain⟨M,hM,hM6⟩:=ztU x.fx.length x.fy.length x.fz.length x.tx.length x.ty.length x.tz.length
 by_cases hl:(x.fx.length≤6∧x.fy.length≤6∧x.fz.length≤6)∧x.tx.length≤6∧x.ty.length≤6∧x.tz.length≤6
 ·have HC:=LH (fun w hw=>zmM x ⟨hl.1.1,hl.1.2.1,hl.1.2.2,hl.2.1,hl.2.2.1,hl.2.2.2⟩ w hw)
  have hg:decide ((6:Int)<M)=false:=decide_eq_false (by have:=hM6.2 hl;omega)
  clear hl hM6
  generalize hLR:LnR x=LR at *
  clear hLR
  obtain⟨k,X,Y,Z,X',Y',Z',l,r⟩:=x
  unfold lnC at *
  simp only at *
  obtain⟨W0,hW0⟩:∃ W0,w.alloc (.cells #[.int .i64 k,.string ⟨X.toArray⟩,.string ⟨Y.toArray⟩,.string ⟨Z.toArray⟩,.string ⟨X'.toArray⟩,.string ⟨Y'.toArray⟩,.string ⟨Z'.toArray⟩,.int .i64 l,.int .i64 r] 34)=W0:=⟨_,rfl⟩
  have hq0:Q w W0:=by rw[← hW0];exact bt
  have BL:Blk W0 w.heap.size [.int .i64 k,.string ⟨X.toArray⟩,.string ⟨Y.toArray⟩,.string ⟨Z.toArray⟩,.string ⟨X'.toArray⟩,.string ⟨Y'.toArray⟩,.string ⟨Z'.toArray⟩,.int .i64 l,.int .i64 r] 34:=by rw[← hW0];exact Blk.new w _ _
  have hQ0:=Q.refl W0
  replace n0:=BL.cell
  replace lBL:=BL.lt
  go_enter Tryz.func13,Tryz.ntmps13
  go_wp2_with fail
  refine(HC.out _ (hE.ofQ hq0)).mono ?_
  rintro e G1⟨E,rfl,hg1,hr⟩
  have HR:=LH hr
  have hQ:=Q.trans hq0 hg1
  clear hr
  cases hE0:(E == 0)
  ·have hn:=zaB hE0
   go_wp2
   go_ret
   exact⟨_,rfl,hQ,fun h=>by cases h⟩
  ·have hn:=zbR hE0
   go_wp2
   go_ret
   exact⟨_,rfl,hQ,fun _=>HR.out (eq_of_beq hE0)⟩
 ·have hg:decide ((6:Int)<M)=true:=decide_eq_true (by
   by_cases h:M≤6
   ·exact absurd (hM6.1 h) hl
   ·omega)
  clear hl hM6
  generalize hLR:LnR x=LR at *
  clear hLR
  obtain⟨k,X,Y,Z,X',Y',Z',l,r⟩:=x
  unfold lnC at *
  simp only at *
  obtain⟨W0,hW0⟩:∃ W0,w.alloc (.cells #[.int .i64 k,.string ⟨X.toArray⟩,.string ⟨Y.toArray⟩,.string ⟨Z.toArray⟩,.string ⟨X'.toArray⟩,.string ⟨Y'.toArray⟩,.string ⟨Z'.toArray⟩,.int .i64 l,.int .i64 r] 34)=W0:=⟨_,rfl⟩
  have hq0:Q w W0:=by rw[← hW0];exact bt
  have BL:Blk W0 w.heap.size [.int .i64 k,.string ⟨X.toArray⟩,.string ⟨Y.toArray⟩,.string ⟨Z.toArray⟩,.string ⟨X'.toArray⟩,.string ⟨Y'.toArray⟩,.string ⟨Z'.toArray⟩,.int .i64 l,.int .i64 r] 34:=by rw[← hW0];exact Blk.new w _ _
  have hQ0:=Q.refl W0
  replace n0:=BL.cell
  replace lBL:=BL.lt
  go_enter Tryz.func13,Tryz.ntmps13
  go_wp2
  go_ret
  exact⟨_,rfl,hq0,fun h=>by cases h⟩
theorem zqo(K:Nat)(HK:∀ args w,(callFunc K args).run Tryz.prog w=.ok (.enter K args) w)(P N:Ln→Prop)(L:List Ln)(hn:L.length≤8)(v:Value)(w:World)(hE:Env w)(hv:zba 9 lnC w v L)
  (HC:Hid (∀ x∈L,∀ W,Env W→Q w W→Calls Tryz.prog K #[.agg (lnC x).toArray] W fun e w'=>∃ b,e=.returned (.bool b)∧Q W w'∧(b=false→P x)∧(b=true→N x))) :
  Calls Tryz.prog 29 #[v,.func (.func K) #[] #[]] w fun e w'=>∃ i:Int,e=.returned (.int .i64 i)∧Q w w'∧((i = -1∧∀ x∈L,P x)∨(0≤i∧∃ x∈L,N x)):=by
 obtain⟨a,cap,rfl,hc⟩:=hv
 have hHK:=LH HK
 clear HK
 go_enter Tryz.func29,Tryz.ntmps29
 go_wp2
 go_loopw [8] (fun i wr=>∃ k:Nat,k≤L.length∧i=.int .i64 k∧Q w wr∧∀ x∈L.take k,P x) (fun i _=>L.length - (intOf i).toNat)
 case atStart=>exact⟨0,by omega,rfl,Below.refl _ _,fun x hx=>by simp at hx⟩
 case round =>
  obtain⟨k,hk,rfl,hQ,hP⟩:=hrel
  have HP:=LH hP
  clear hP
  by_cases hlt:k<L.length
  ·obtain⟨b,o,rfl,hb,hcell⟩:=hc k hlt
   have hx:L[k]∈L:=List.getElem_mem hlt
   have HG:=LH (fun W hW hq=>HC.out L[k] hx W hW hq)
   have HPx:=LH (fun(h:P L[k]) x (hx:x∈L.take (k+1))=>(show P x from by
    rw[List.take_add_one,List.getElem?_eq_getElem hlt]at hx
    simp only[Option.toList_some,List.mem_append,List.mem_singleton]at hx
    rcases hx with hx | rfl
    ·exact HP.out x hx
    ·exact h))
   have HNx:=LH (fun(h:N L[k])=>(show ∃ x∈L,N x from⟨_,hx,h⟩))
   have cc:∀ j u,(lnC L[k])[j]? = some u→wr.cell? ⟨b,o+k*9+j,none⟩=some u:=fun j u h=>by
    rw[hQ.cell (p:=⟨b,o+k*9+j,none⟩) hb];exact hcell j u h
   clear hcell hc hx HC
   generalize P L[k]=Pk at *
   generalize N L[k]=Nk at *
   generalize L[k]=x at *
   obtain⟨kk,X,Y,Z,X',Y',Z',l,r⟩:=x
   unfold lnC at cc HG
   simp only at cc HG
   have c0:=cc 0 _ rfl
   have c1:=cc 1 _ rfl
   have c2:=cc 2 _ rfl
   have c3:=cc 3 _ rfl
   have c4:=cc 4 _ rfl
   have c5:=cc 5 _ rfl
   have c6:=cc 6 _ rfl
   have c7:=cc 7 _ rfl
   have c8:=cc 8 _ rfl
   rw[Nat.add_zero]at c0
   clear cc
   have hk2:=fun args w=>hHK.out args w
   go_wp2_with fail
   refine(HG.out _ (hE.q hQ) hQ).mono ?_
   rintro e w2⟨bb,rfl,hq2,hp,hnn⟩
   have HPP:=LH hp
   have HNN:=LH hnn
   have hQ2:Q w w2:=Q.trans hQ hq2
   clear hp hnn hk2
   cases bb
   ·go_wp2
    go_roundw
    case rel=>exact⟨k+1,by omega,by go_num,hQ2,HPx.out (HPP.out trivial)⟩
    case measure=>simp[intOf];omega
   ·go_wp2
    go_ret
    exact⟨_,rfl,hQ2,.inr ⟨by omega,HNx.out (HNN.out trivial)⟩⟩
  ·obtain rfl:k=L.length:=by omega
   have hall:=HP.out
   rw[List.take_length]at hall
   have HA:=LH hall
   clear hall
   go_wp2
   go_ret
   exact⟨_,rfl,hQ,.inl ⟨rfl,HA.out⟩⟩
theorem zhw(K:Nat)(HK:∀ args w,(callFunc K args).run Tryz.prog w=.ok (.enter K args) w)(P N:Ln→Prop)(L:List Ln)(hn:L.length≤8)(v:Value)(w:World)(hE:Env w)(hv:zba 9 lnC w v L)
  (HC:Hid (∀ x∈L,∀ W,Env W→Q w W→Calls Tryz.prog K #[.agg (lnC x).toArray] W fun e w'=>∃ b,e=.returned (.bool b)∧Q W w'∧(b=false→P x)∧(b=true→N x))) :
  Calls Tryz.prog 12 #[v,.func (.func K) #[] #[]] w fun e w'=>∃ b,e=.returned (.bool b)∧Q w w'∧((b=false∧∀ x∈L,P x)∨(b=true∧∃ x∈L,N x)):=by
 have HI:=LH (zqo K HK P N L hn v w hE hv HC)
 clear hv HC HK
 go_enter Tryz.func12,Tryz.ntmps12
 go_wp2_with fail
 refine HI.out.mono ?_
 rintro e w1⟨i,rfl,hq1,h⟩
 rcases h with⟨rfl,h⟩|⟨h0,h⟩
 ·have HH:=LH h
  clear h
  go_wp2
  go_ret
  exact⟨_,rfl,hq1,.inl ⟨rfl,HH.out⟩⟩
 ·have HH:=LH h
  clear h
  have hd:decide (0≤i)=true:=decide_eq_true h0
  go_wp2
  go_ret
  exact⟨_,rfl,hq1,.inr ⟨by first | rfl | simpa using h0,HH.out⟩⟩
theorem zo3(L:List Ln)(hn:L.length≤8)(v:Value)(w:World)(hE:Env w)(hv:zba 9 lnC w v L) :
  Calls Tryz.prog 4 #[v] w fun e w'=>∃ b,e=.returned (.bool b)∧Q w w'∧(b=true→∀ x∈L,LnR x):=by
 have HI:=LH (zhw 13 (fun _ _=>by kernel_rfl) LnR (fun _=>True) L hn v w hE hv (LH fun x _ W hW _=>(zsS x W hW).mono fun e w' h=>by
  obtain⟨b,h1,h2,h3⟩:=h
  exact⟨b,h1,h2,h3,fun _=>trivial⟩))
 clear hv
 go_enter Tryz.func4,Tryz.ntmps4
 go_wp2_with fail
 refine HI.out.mono ?_
 rintro e w1⟨b,rfl,hq1,h⟩
 have HH:=LH h
 clear h
 cases b
 ·go_wp2
  go_ret
  exact⟨_,rfl,hq1,fun _=>by
   rcases HH.out with⟨-,h⟩|⟨h,-⟩
   ·exact h
   ·cases h⟩
 ·go_wp2
  go_ret
  exact⟨_,rfl,hq1,fun h=>by cases h⟩
theorem zrW(x:Ln)(hx:LnR x)(w:World)(hE:Env w)(hS:za9 w) :
  Calls Tryz.prog 50 #[.agg (lnC x).toArray] w fun e w'=>∃ b,e=.returned (.bool b)∧Q w w'∧(b=false→True)∧(b=true→False):=by
 obtain⟨y,hy,ok⟩:=hx
 have HC:=LH (fun W hW hq=>zdZ y ok W hW (hS.q (w':=W) hq))
 rw[← hy]at HC
 clear hy ok hS
 obtain⟨k,X,Y,Z,X',Y',Z',l,r⟩:=x
 unfold lnC at *
 simp only at *
 have BL:=Blk.new w [.int .i64 k,.string ⟨X.toArray⟩,.string ⟨Y.toArray⟩,.string ⟨Z.toArray⟩,.string ⟨X'.toArray⟩,.string ⟨Y'.toArray⟩,.string ⟨Z'.toArray⟩,.int .i64 l,.int .i64 r] 34
 go_enter Tryz.func50,Tryz.ntmps50
 go_wp2_with fail
 refine cx (HC.out _ (hE.ofQ bt) bt) fun w1 hq1=>?_
 have hQ:Q w w1:=Q.trans bt hq1
 go_wp2
 go_ret
 exact⟨_,rfl,hQ,fun _=>trivial,fun h=>by cases h⟩
theorem zmF(L:List Ln)(hn:L.length≤8)(hx:∀ x∈L,LnR x)(v:Value)(w:World)(hE:Env w)(hS:za9 w)(hv:zba 9 lnC w v L) :
  CR 23 #[v] w (.int .i64 0):=by
 have HI:=LH (zhw 50 (fun _ _=>by kernel_rfl) (fun _=>True) (fun _=>False) L hn v w hE hv (LH fun x hm W hW hq=>zrW x (hx x hm) W hW (hS.q hq)))
 obtain⟨a,cap,rfl,-⟩:=hv
 have hl:decide ((4096:Int)<(L.length:Int))=false:=decide_eq_false (by omega)
 clear hx hS
 go_enter Tryz.func23,Tryz.ntmps23
 go_wp2_with fail
 refine HI.out.mono ?_
 rintro e w1⟨b,rfl,hq1,h⟩
 rcases h with⟨rfl,-⟩|⟨-,x,-,h⟩
 ·go_wp2
  go_ret
  exact⟨rfl,hq1⟩
 ·exact h.elim
end
end Go.Proofs.YtapnkgdnflofbaaGreatDoor
