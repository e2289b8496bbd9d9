/-
  plus, ZeroMatrix, AddMatrices, ScaleMatrix (the program's) and l1Copy, l1Add, l1Scale, AddMatrices, ScaleMatrix (the reference's), by their contracts.
-/
import Derived.Test.YtbmnnbglipkidaaGreatDoorZ60
namespace Go.Proofs.YtbmnnbglipkidaaGreatDoor
set_option linter.unusedVariables false
set_option linter.unusedSimpArgs false
open Go.RowKit
theorem SS (row vo:Value)(k p:Int)(w:World)(hy:Ints w vo []) :
    Calls Tryz.prog 148 #[row,.int .i64 k,vo,.int .i64 p] w fun e w'=>e = .returned (.tuple #[])∧w=w':=by
  obtain⟨ad,hl,hi,hc,_⟩:=hy.facts Xf
  simp only[List.length_nil] at hl
  clear hi hc
  go_enter Tryz.func148,Tryz.ntmps148
  go_wp2
  go_loop [12] (fun i=>i = .int .i64 0) (fun _=>0)
  case atStart=>rfl
  case round =>
    subst hrel
    go_wp2
    go_end0
    exact⟨rfl,rfl⟩
theorem SK (B:Nat)(v:Value)(L:List Int)(k p:Int)(vo:Value)(ys:List Int)(w:World)
    (h:Du w B 3 v L) (hyn:ys.length≤L.length) (hy:Ints w vo ys) (hne:0<ys.length→vo.ownBlock≠v.ownBlock) (hp0:1≤p) (hp1:p≤20000) (hk0:0≤k) (hk1:k≤20000)
    (hL:∀ x∈L,0≤x∧x≤1000000000) (hY:∀ x∈ys,0≤x∧x≤1000000000) (hn:L.length≤1073741824) :
    Calls Tryz.prog 148 #[v,.int .i64 k,vo,.int .i64 p] w fun e w'=>e = .returned (.tuple #[])∧Du w' B 3 v (addF k p L ys)∧w.grownBy w' v.ownBlock:=by
  rcases h with⟨h0,h1,rfl⟩ | h
  · have hys:ys = []:=List.eq_nil_of_length_eq_zero (by omega)
    subst hys
    refine(SS _ _ _ _ _ hy).mono ?_
    rintro e w' ⟨rfl,rfl⟩
    exact⟨rfl,by rw[CZ];exact .inl ⟨h0,h1,rfl⟩,World.grownBy.refl _ _⟩
  · have hO:Ch w B 3 1 v L.length (L.map (Value.int .i64)) := .inr h
    obtain⟨_,g,cap,cur,rfl,_⟩:=h
    have e:=SM B g L.length cap L (some ⟨g,0,none⟩) 0 L.length cap k p vo ys w hO rfl (fun _=>rfl) (by omega) hyn hy (fun b hpos hb he=>hne hpos (by rw[hb,he];rfl)) hp0 hp1 hk0 hk1
      (fun i hi=>by rw[Nat.zero_add];exact hL _ (by simp[List.getD,show i<L.length by omega])) (fun i hi=>hY _ (by simp[List.getD,hi])) hn
    refine e.mono ?_
    rintro e w' ⟨rfl,hO',hG⟩
    refine⟨rfl,?_,hG⟩
    have:DS L 0 k p ys=addF k p L ys:=by simp[DS]
    rw[this] at hO'
    simpa [Du,BF] using hO'
def Gl (a:Mat)(k:Int)(b:Mat):Mat:=⟨a.p,a.r,a.c,addF k a.p a.d b.d⟩
def E2 (m:Mat):Prop:=1≤m.p∧m.p≤20000∧m.d.length≤1073741824∧∀ x∈m.d,0≤x∧x≤1000000000
set_option maxHeartbeats 1000000 in
theorem VW (va vb:Value)(a b:Mat)(k:Int)(w:World)(ha:EP w va a)(hb:EP w vb b)(sa:E2 a)(sb:E2 b)(hk0:0≤k)(hk1:k≤20000)(hl:b.d.length≤a.d.length) :
    Calls Tryz.prog 145 #[va,.int .i64 k,vb] w fun e w'=>∃ r,e = .returned r∧FQ w' w.heap.size r (Gl a k b)∧Below w.heap.size w w':=by
  obtain⟨da,rfl,hda⟩:=ha
  obtain⟨db,rfl,hdb⟩:=hb
  obtain⟨ap,ar,ac,ad⟩:=a
  obtain⟨bp,br,bc,bd⟩:=b
  obtain⟨p0,p1,la,ea⟩:=sa
  obtain⟨_,_,lb,eb⟩:=sb
  dsimp only at *
  obtain⟨aoa,capa,rfl⟩:=Sl.form hda
  obtain⟨aob,capb,rfl⟩:=Sl.form hdb
  have HE:=hid (And.intro ea eb)
  clear ea eb
  obtain⟨W,hW⟩:∃ W,W=((w.alloc (.cells #[.int .i64 ap,.int .i64 ar,.int .i64 ac,.slice aoa ad.length capa] 51)).alloc (.cells #[.int .i64 bp,.int .i64 br,.int .i64 bc,.slice aob bd.length capb] 51)).alloc (.cells #[.int .i64 0,.int .i64 0,.int .i64 0,.slice none 0 0] 51):=⟨_,rfl⟩
  have hWs:W.heap.size=w.heap.size+3:=by rw[hW];simp
  have hb0:Below w.heap.size w W:=by rw[hW];exact(((Below.refl w.heap.size w).alloc (Nat.le_refl _) _).alloc (by simp) _).alloc (by simp;omega) _
  have x0:Bx W w.heap.size 51 [.int .i64 ap,.int .i64 ar,.int .i64 ac,.slice aoa ad.length capa]:=by rw[hW];exact((Bx.push w _ _).alloc _).alloc _
  have x1:Bx W (w.heap.size+1) 51 [.int .i64 bp,.int .i64 br,.int .i64 bc,.slice aob bd.length capb]:=by rw[hW];exact(Bx.push' _ _ _ _ (by simp)).alloc _
  have x2:Bx W (w.heap.size+1+1) 51 [.int .i64 0,.int .i64 0,.int .i64 0,.slice none 0 0]:=by rw[hW];exact Bx.push' _ _ _ _ (by simp)
  have HW:=hid hW
  have X:=hid (And.intro x0 (And.intro x1 x2))
  clear hW x0 x1 x2
  go_enter Tryz.func145,Tryz.ntmps145
  go_upto_region 1 with fail
  rw[← HW.out]
  go_cut [7] (fun s7 wx=>∃ g dv,s7 = .pointer (some ⟨g,0,none⟩)∧w.heap.size+3≤g∧Bx wx g 51 [.int .i64 ap,.int .i64 ar,.int .i64 ac,dv]∧Du wx (w.heap.size+3) 3 dv ad∧dv.ownBlock≠some g∧Below (w.heap.size+3) W wx)
  case first =>
    have hda2:∀ w',Below W.heap.size W w'→Ints w' (.slice aoa ad.length capa) ad:=fun w' h=>Sl.below hda (hb0.trans (h.mono (by omega)))
    have hS0:∀ w',Below W.heap.size W w'→w'.cell? ⟨w.heap.size,0,none⟩=some (.int .i64 ap):=fun w' h=>(X.out.1.below h (by omega)).cells4.1
    have hS1:∀ w',Below W.heap.size W w'→w'.cell? ⟨w.heap.size,1,none⟩=some (.int .i64 ar):=fun w' h=>(X.out.1.below h (by omega)).cells4.2.1
    have hS2:∀ w',Below W.heap.size W w'→w'.cell? ⟨w.heap.size,2,none⟩=some (.int .i64 ac):=fun w' h=>(X.out.1.below h (by omega)).cells4.2.2.1
    have hS3:∀ w',Below W.heap.size W w'→w'.cell? ⟨w.heap.size,3,none⟩=some (.slice aoa ad.length capa):=fun w' h=>(X.out.1.below h (by omega)).cells4.2.2.2
    have HWs:=hid hWs
    clear hWs
    go_region_held3 (fun w'=>Below W.heap.size W w')
      (first | assumption | exact(Below.refl _ _).drew | exact Below.alloc (by assumption) (Below.size (by assumption)) _ | exact Below.setCell (Below.setCell (Below.setCell (Below.setCell (by assumption) (by simp) _) (by simp) _) (by simp) _) (by simp) _)
      ((go_at_call 130;refine(SN _ _ _ (hda2 _ (by assumption)) la).mono ?_;rintro e w1 ⟨r,rfl,hown,hbz⟩;obtain⟨aor,capr,rfl⟩:=hown.form;obtain⟨hcl,hfr⟩:=dH hbz;have hnew:Below W.heap.size W w1:=Below.trans (by assumption) (hbz.mono (Below.size (by assumption)))))
    all_goals go_wp2_with fail
    all_goals go_meet
    · have ho:=hown.mono (B':=w.heap.size+3) (by have:=HWs.out;simp;omega)
      have hz:W.heap.size≤w1.heap.size:=Nat.le_trans (by simp) hbz.size
      exact⟨w1.heap.size,_,rfl,by have:=HWs.out;omega,Bx.push _ _ _,Ch.below ho (Below.allocs _),hown.ne (.inr (Nat.le_refl _)),(hnew.alloc hz _).mono (by have:=HWs.out;omega)⟩
    · have ho:=hown.mono (B':=W.heap.size+1) (by simp)
      have xb:Bx w1 W.heap.size 51 [.int .i64 0,.int .i64 0,.int .i64 0,.slice none 0 0]:=Bx.below (Bx.push W _ _).drew hbz (by simp)
      refine⟨W.heap.size,_,rfl,by have:=HWs.out;omega,(((xb.set 0 _).set 1 _).set 2 _).set 3 _,?_,hown.ne (.inl (by simp)),?_⟩
      · exact((((ho.setB (by simp)).setB (by simp)).setB (by simp)).setB (by simp)).mono (by have:=HWs.out;omega)
      · exact(Below.setCell (Below.setCell (Below.setCell (Below.setCell hnew (by simp) _) (by simp) _) (by simp) _) (by simp) _).mono (by have:=HWs.out;omega)
  case rest =>
    obtain⟨g,dv,rfl,hg0,xg,hO,hne,hB⟩:=hcut
    obtain⟨aor,capr,rfl⟩:=hO.form
    obtain⟨a0,a1,a2,a3⟩:=(X.out.1.below hB (by omega)).cells4
    obtain⟨b0,b1,b2,b3⟩:=(X.out.2.1.below hB (by omega)).cells4
    obtain⟨c0,c1,c2,c3⟩:=xg.cells4
    have x2:=X.out.2.2.below hB (by omega)
    have hIb:Ints wc (.slice aob bd.length capb) bd:=Sl.below hdb (hb0.trans (hB.mono (by omega)))
    have HO:=hid (And.intro hO (And.intro hne hB))
    have XG:=hid (And.intro xg x2)
    have HWs:=hid hWs
    have hgl:=xg.lt
    have hrowne:0<bd.length→(Value.slice aob bd.length capb).ownBlock≠(Value.slice aor ad.length capr).ownBlock:=fun h=>Sl.apart hdb HO.out.1 (by omega) h (by omega)
    have hR:=hid hrowne
    clear hO hne hB xg x2 hWs hrowne
    go_wp2_with fail
    refine(SK (w.heap.size+3) _ ad k ap _ bd _ HO.out.1 hl hIb hR.out p0 p1 hk0 hk1 HE.out.1 HE.out.2 la).mono ?_
    rintro e w1 ⟨rfl,hO1,hG⟩
    have y:=(XG.out.1.grown hG HO.out.2.1)
    obtain⟨c0,c1,c2,c3⟩:=y.cells4
    have y2:=(XG.out.2.grown hG (hO1.ne (.inl (by omega))))
    obtain⟨d0,d1,d2,d3⟩:=y2.cells4
    have f2:=y2.free
    have Y:=hid (And.intro y y2)
    have HG:=hid hG
    clear y y2 hG
    go_wp2
    refine bodyPost_ret (v := .agg #[.int .i64 ap,.int .i64 ar,.int .i64 ac,.slice aor ad.length capr]) (by simp[results,Tryz.results145,go_sem,d0,d1,d2,d3]) rfl ?_
    refine⟨_,rfl,⟨_,rfl,?_⟩,?_⟩
    · exact((((hO1.setB (by simp)).setB (by simp)).setB (by simp)).setB (by simp)).mono (by omega)
    · refine Below.setCell (Below.setCell (Below.setCell (Below.setCell ?_ (by simp;omega) _) (by simp;omega) _) (by simp;omega) _) (by simp;omega) _
      refine(hb0.trans (HO.out.2.2.mono (by omega))).trans ?_
      refine⟨HG.out.os,HG.out.tape,HG.out.output,HG.out.size,fun b hb=>HG.out.block b ?_ ?_⟩
      · have:=HO.out.2.2.size;have:=HWs.out;omega
      · exact(HO.out.1.ne (.inl (by omega))).symm
end Go.Proofs.YtbmnnbglipkidaaGreatDoor
