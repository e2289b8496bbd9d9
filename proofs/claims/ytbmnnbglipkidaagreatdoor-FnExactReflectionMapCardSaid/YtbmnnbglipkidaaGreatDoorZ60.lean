/-
  MatrixOk (the program's and the reference's), by its contract.
-/
import Derived.Test.YtbmnnbglipkidaaGreatDoorPrime
import Derived.Test.YtbmnnbglipkidaaGreatDoorZ52
namespace Go.Proofs.YtbmnnbglipkidaaGreatDoor
set_option linter.unusedVariables false
set_option linter.unusedSimpArgs false
open Go.RowKit
def AY (m:Mat):Bool:=AJ m.p&&(BZ m.r 0 40&&(BZ m.c 0 40&&(((m.d.length:Int)==m.r*m.c)&&GT m.d m.p)))
structure MatOk (m:Mat):Prop where
  prime:AJ m.p=true
  p0:2≤m.p
  p1:m.p≤10007
  r0:0≤m.r
  r1:m.r≤40
  c0:0≤m.c
  c1:m.c≤40
  len:(m.d.length:Int)=m.r*m.c
  le:m.d.length≤1600
  res:∀ x∈m.d,0≤x∧x<m.p
theorem Gi {r c:Int}(hr:0≤r∧r≤40)(hc:0≤c∧c≤40):0≤r*c∧r*c≤1600 :=
  ⟨Int.mul_nonneg hr.1 hc.1,Int.le_trans (Int.mul_le_mul hr.2 hc.2 hc.1 (by omega)) (by omega)⟩
theorem DG {m:Mat}(h:AY m=true):MatOk m:=by
  simp only[AY,Bool.and_eq_true,beq_iff_eq] at h
  obtain⟨h1,h2,h3,h4,h5⟩:=h
  have hp:=AU h1
  have hr:=AX h2
  have hc:=AX h3
  have hb:=Gi hr hc
  exact⟨h1,hp.1,hp.2,hr.1,hr.2,hc.1,hc.2,h4,by omega,fun x hx=>Vi h5 hx⟩
set_option maxHeartbeats 1000000 in
theorem ME (v:Value)(m:Mat)(w:World)(h:EP w v m) :
    Calls Tryz.prog 147 #[v] w fun e w'=>e = .returned (.bool (AY m))∧Below w.heap.size w w':=by
  obtain⟨dv,rfl,hd⟩:=h
  have hb:=Below.allocs (w:=w) (.cells #[.int .i64 m.p,.int .i64 m.r,.int .i64 m.c,dv] 51)
  have hd':Ints _ _ m.d:=Sl.below hd hb
  have hsz:=Sl.size_le hd
  unfold maxLen at hsz
  obtain⟨ao,cap,rfl⟩:=Sl.form hd
  obtain⟨n,hn⟩:∃ n,n=m.d.length:=⟨_,rfl⟩
  have hF:AY m=(AJ m.p&&(BZ m.r 0 40&&(BZ m.c 0 40&&(((n:Int)==m.r*m.c)&&GT m.d m.p)))):=by rw[hn];rfl
  rw[← hn] at hsz hb hd' ⊢
  have HF:=hid hF;have HN:=hid hn;have HB:=hid hb
  clear hF hn hb hd
  obtain⟨p,r,c,d⟩:=m
  dsimp only at *
  by_cases h1:AJ p=true
  · by_cases h2:BZ r 0 40=true
    · by_cases h3:BZ c 0 40=true
      · obtain⟨k0,k1⟩:=Gi (AX h2) (AX h3)
        obtain⟨p0,p1⟩:=AU h1
        by_cases h4:((n:Int)==r*c)=true
        · have h4':((n:Int) != r*c)=false:=by simpa using h4
          go_enter Tryz.func147,Tryz.ntmps147
          go_wp2_with (first | (go_at_call 61;refine(Cy _ _).mono ?_;rintro e w1 ⟨rfl,rfl⟩) | (go_at_call 84;refine(B7 _ _ _ _).mono ?_;rintro e w1 ⟨rfl,rfl⟩) | (go_at_call 176;refine(CA _ _ _ _ hd' (by omega) (by omega)).mono ?_;rintro e w1 ⟨rfl,hbx⟩))
          go_ret
          exact⟨AL (by rw[HF.out,h1,h2,h3,h4];rfl),by first | exact HB.out | exact HB.out.trans (hbx.mono (by simp))⟩
        · have h4':((n:Int)==r*c)=false:=by simpa using h4
          have h4'':((n:Int) != r*c)=true:=by simpa using h4
          go_enter Tryz.func147,Tryz.ntmps147
          go_wp2_with (first | (go_at_call 61;refine(Cy _ _).mono ?_;rintro e w1 ⟨rfl,rfl⟩) | (go_at_call 84;refine(B7 _ _ _ _).mono ?_;rintro e w1 ⟨rfl,rfl⟩) | (go_at_call 176;refine(CA _ _ _ _ hd' (by omega) (by omega)).mono ?_;rintro e w1 ⟨rfl,hbx⟩))
          go_ret
          exact⟨AL (by rw[HF.out,h1,h2,h3,h4'];rfl),HB.out⟩
      · have h3':BZ c 0 40=false:=by simpa using h3
        go_enter Tryz.func147,Tryz.ntmps147
        go_wp2_with (first | (go_at_call 61;refine(Cy _ _).mono ?_;rintro e w1 ⟨rfl,rfl⟩) | (go_at_call 84;refine(B7 _ _ _ _).mono ?_;rintro e w1 ⟨rfl,rfl⟩) | (go_at_call 176;refine(CA _ _ _ _ hd' (by omega) (by omega)).mono ?_;rintro e w1 ⟨rfl,hbx⟩))
        go_ret
        exact⟨AL (by rw[HF.out,h1,h2,h3'];rfl),HB.out⟩
    · have h2':BZ r 0 40=false:=by simpa using h2
      go_enter Tryz.func147,Tryz.ntmps147
      go_wp2_with (first | (go_at_call 61;refine(Cy _ _).mono ?_;rintro e w1 ⟨rfl,rfl⟩) | (go_at_call 84;refine(B7 _ _ _ _).mono ?_;rintro e w1 ⟨rfl,rfl⟩) | (go_at_call 176;refine(CA _ _ _ _ hd' (by omega) (by omega)).mono ?_;rintro e w1 ⟨rfl,hbx⟩))
      go_ret
      exact⟨AL (by rw[HF.out,h1,h2'];rfl),HB.out⟩
  · have h1':AJ p=false:=by simpa using h1
    go_enter Tryz.func147,Tryz.ntmps147
    go_wp2_with (first | (go_at_call 61;refine(Cy _ _).mono ?_;rintro e w1 ⟨rfl,rfl⟩) | (go_at_call 84;refine(B7 _ _ _ _).mono ?_;rintro e w1 ⟨rfl,rfl⟩) | (go_at_call 176;refine(CA _ _ _ _ hd' (by omega) (by omega)).mono ?_;rintro e w1 ⟨rfl,hbx⟩))
    go_ret
    exact⟨AL (by rw[HF.out,h1'];rfl),HB.out⟩
set_option maxHeartbeats 1000000 in
theorem GO (v:Value)(m:Mat)(w:World)(h:EP w v m) :
    Calls Tryz.prog 170 #[v] w fun e w'=>e = .returned (.bool (AY m))∧Below w.heap.size w w':=by
  obtain⟨dv,rfl,hd⟩:=h
  have hb:=Below.allocs (w:=w) (.cells #[.int .i64 m.p,.int .i64 m.r,.int .i64 m.c,dv] 51)
  have hd':Ints _ _ m.d:=Sl.below hd hb
  have hsz:=Sl.size_le hd
  unfold maxLen at hsz
  obtain⟨ao,cap,rfl⟩:=Sl.form hd
  obtain⟨n,hn⟩:∃ n,n=m.d.length:=⟨_,rfl⟩
  have hF:AY m=(AJ m.p&&(BZ m.r 0 40&&(BZ m.c 0 40&&(((n:Int)==m.r*m.c)&&GT m.d m.p)))):=by rw[hn];rfl
  rw[← hn] at hsz hb hd' ⊢
  have HF:=hid hF;have HN:=hid hn;have HB:=hid hb
  clear hF hn hb hd
  obtain⟨p,r,c,d⟩:=m
  dsimp only at *
  by_cases h1:AJ p=true
  · by_cases h2:BZ r 0 40=true
    · by_cases h3:BZ c 0 40=true
      · obtain⟨k0,k1⟩:=Gi (AX h2) (AX h3)
        obtain⟨p0,p1⟩:=AU h1
        by_cases h4:((n:Int)==r*c)=true
        · have h4':((n:Int) != r*c)=false:=by simpa using h4
          go_enter Tryz.func170,Tryz.ntmps170
          go_wp2_with (first | (go_at_call 59;refine(Bz _ _).mono ?_;rintro e w1 ⟨rfl,rfl⟩) | (go_at_call 77;refine(EX _ _ _ _).mono ?_;rintro e w1 ⟨rfl,rfl⟩) | (go_at_call 198;refine(Cf _ _ _ _ hd').mono ?_;rintro e w1 ⟨rfl,rfl⟩))
          go_ret
          exact⟨AL (by rw[HF.out,h1,h2,h3,h4];rfl),by first | exact HB.out | exact HB.out.trans (hbx.mono (by simp))⟩
        · have h4':((n:Int)==r*c)=false:=by simpa using h4
          have h4'':((n:Int) != r*c)=true:=by simpa using h4
          go_enter Tryz.func170,Tryz.ntmps170
          go_wp2_with (first | (go_at_call 59;refine(Bz _ _).mono ?_;rintro e w1 ⟨rfl,rfl⟩) | (go_at_call 77;refine(EX _ _ _ _).mono ?_;rintro e w1 ⟨rfl,rfl⟩) | (go_at_call 198;refine(Cf _ _ _ _ hd').mono ?_;rintro e w1 ⟨rfl,rfl⟩))
          go_ret
          exact⟨AL (by rw[HF.out,h1,h2,h3,h4'];rfl),HB.out⟩
      · have h3':BZ c 0 40=false:=by simpa using h3
        go_enter Tryz.func170,Tryz.ntmps170
        go_wp2_with (first | (go_at_call 59;refine(Bz _ _).mono ?_;rintro e w1 ⟨rfl,rfl⟩) | (go_at_call 77;refine(EX _ _ _ _).mono ?_;rintro e w1 ⟨rfl,rfl⟩) | (go_at_call 198;refine(Cf _ _ _ _ hd').mono ?_;rintro e w1 ⟨rfl,rfl⟩))
        go_ret
        exact⟨AL (by rw[HF.out,h1,h2,h3'];rfl),HB.out⟩
    · have h2':BZ r 0 40=false:=by simpa using h2
      go_enter Tryz.func170,Tryz.ntmps170
      go_wp2_with (first | (go_at_call 59;refine(Bz _ _).mono ?_;rintro e w1 ⟨rfl,rfl⟩) | (go_at_call 77;refine(EX _ _ _ _).mono ?_;rintro e w1 ⟨rfl,rfl⟩) | (go_at_call 198;refine(Cf _ _ _ _ hd').mono ?_;rintro e w1 ⟨rfl,rfl⟩))
      go_ret
      exact⟨AL (by rw[HF.out,h1,h2'];rfl),HB.out⟩
  · have h1':AJ p=false:=by simpa using h1
    go_enter Tryz.func170,Tryz.ntmps170
    go_wp2_with (first | (go_at_call 59;refine(Bz _ _).mono ?_;rintro e w1 ⟨rfl,rfl⟩) | (go_at_call 77;refine(EX _ _ _ _).mono ?_;rintro e w1 ⟨rfl,rfl⟩) | (go_at_call 198;refine(Cf _ _ _ _ hd').mono ?_;rintro e w1 ⟨rfl,rfl⟩))
    go_ret
    exact⟨AL (by rw[HF.out,h1'];rfl),HB.out⟩
set_option maxHeartbeats 400000 in
theorem SN (v:Value)(xs:List Int)(w:World)(h:Ints w v xs)(hs:xs.length≤1073741824) :
    Calls Tryz.prog 130 #[v] w fun e w'=>∃ r,e = .returned r∧Du w' w.heap.size 3 r xs∧Below w.heap.size w w':=by
  obtain⟨ao,cap,rfl⟩:=Sl.form h
  have hnl:=fun W=>Lib.run_eql_slice_nil (P:=Tryz.prog) W 22 3 ao xs.length cap 0 0 Xf.ht
  cases ao with
  | none =>
    have hx:xs.length=0:=by
      obtain⟨_,ao',cap',hv,h1,h2,h3,h4⟩:=h
      simp only[Value.slice.injEq] at hv
      have:=h3 hv.1.symm
      omega
    have hx':xs = []:=List.eq_nil_of_length_eq_zero hx
    subst hx'
    simp only[List.length_nil] at hnl ⊢
    clear hx hs h
    go_enter Tryz.func130,Tryz.ntmps130
    go_wp2
    go_ret
    exact⟨_,rfl,Ch.nil _ _ _ _,Below.refl _ _⟩
  | some a =>
    have hb:=Below.allocs (w:=w) (.cells #[] 3)
    have h':=Sl.below h hb
    have hm:0+xs.length≤maxLen:=by simp[maxLen];omega
    have hby:(0+xs.length)*8≤140737488355328:=by omega
    go_enter Tryz.func130,Tryz.ntmps130
    go_wp2_with (first | (at_builtin;go_must (refine Kv Xf (Ch.made0 w 3 1 w.heap.size (Nat.le_refl _)) (by simp) h' (Eu xs) hm hby rfl _ _ rfl rfl rfl ?_)))
    intro v' w1 hown hgrow
    have HO:=hid hown;clear hown
    go_wp2
    go_ret
    exact⟨_,rfl,by simpa [Du] using HO.out,hb.grown hgrow (by simp) (fun k h=>by simp[Value.ownBlock] at h;omega)⟩
set_option maxHeartbeats 400000 in
theorem OX (v:Value)(xs:List Int)(w:World)(h:Ints w v xs)(hs:xs.length≤1073741824) :
    Calls Tryz.prog 108 #[v] w fun e w'=>∃ r,e = .returned r∧Du w' w.heap.size 3 r xs∧Below w.heap.size w w':=by
  obtain⟨ao,cap,rfl⟩:=Sl.form h
  have hb:=Below.allocs (w:=w) (.cells #[] 3)
  have h':=Sl.below h hb
  have hm:0+xs.length≤maxLen:=by simp[maxLen];omega
  have hby:(0+xs.length)*8≤140737488355328:=by omega
  go_enter Tryz.func108,Tryz.ntmps108
  go_wp2_with (first | (at_builtin;go_must (refine Kv Xf (Ch.made0 w 3 1 w.heap.size (Nat.le_refl _)) (by simp) h' (Eu xs) hm hby rfl _ _ rfl rfl rfl ?_)))
  intro v' w1 hown hgrow
  have HO:=hid hown;clear hown
  go_wp2
  go_ret
  exact⟨_,rfl,by simpa [Du] using HO.out,hb.grown hgrow (by simp) (fun k h=>by simp[Value.ownBlock] at h;omega)⟩
def addF (k p:Int):List Int→List Int→List Int
  | z::zs,y::ys=>((z+k*y)%p)::addF k p zs ys
  | zs,[]=>zs
  | [],_=>[]
theorem CZ (k p:Int)(zs:List Int):addF k p zs []=zs:=by cases zs <;> rfl
theorem BF (k p:Int):∀ zs ys:List Int,(addF k p zs ys).length=zs.length
  | z::zs,y::ys=>by simp[addF,BF k p zs ys]
  | zs,[]=>by rw[CZ]
  | [],_::_=>rfl
theorem Fs (k p:Int):∀ (zs ys:List Int) (i:Nat),i<ys.length→i<zs.length →
    (addF k p zs (ys.take i)).getD i 0=zs.getD i 0∧(addF k p zs (ys.take i)).set i ((zs.getD i 0+k*ys.getD i 0)%p)=addF k p zs (ys.take (i+1))
  | [],_,i,_,h=>by simp at h
  | _::_,[],i,h,_=>by simp at h
  | z::zs,y::ys,0,_,_=>by
    cases zs <;> simp[addF]
  | z::zs,y::ys,i+1,h1,h2=>by
    have ih:=Fs k p zs ys i (by simpa using h1) (by simpa using h2)
    simp only[List.take_succ_cons,addF,List.getD_cons_succ,List.set_cons_succ]
    exact⟨ih.1,by rw[ih.2]⟩
def DS (L:List Int)(o:Nat)(k p:Int)(ys:List Int):List Int:=L.take o++addF k p (L.drop o) ys
theorem R1 (L:List Int)(o:Nat)(k p:Int):DS L o k p []=L:=by simp[DS,CZ]
theorem Ss (L:List Int)(o:Nat)(k p:Int)(ys:List Int)(h:o≤L.length):(DS L o k p ys).length=L.length:=by simp[DS,BF];omega
theorem Pe {L ys:List Int}{o i:Nat}{k p:Int}(h1:i<ys.length)(h2:o+i<L.length) :
    (DS L o k p (ys.take i)).getD (o+i) 0=L.getD (o+i) 0∧(DS L o k p (ys.take i)).set (o+i) ((L.getD (o+i) 0+k*ys.getD i 0)%p)=DS L o k p (ys.take (i+1)):=by
  have hl:(L.take o).length=o:=by simp;omega
  have hs:=Fs k p (L.drop o) ys i h1 (by simp;omega)
  have hd:(L.drop o).getD i 0=L.getD (o+i) 0:=by simp[List.getD]
  rw[hd] at hs
  constructor
  · have:(DS L o k p (ys.take i)).getD (o+i) 0=(addF k p (L.drop o) (ys.take i)).getD i 0:=by
      simp only[DS,List.getD]
      rw[List.getElem?_append_right (by omega)]
      simp[hl]
    rw[this,hs.1]
  · rw[DS,List.set_append_right _ _ (by omega),hl,Nat.add_sub_cancel_left,hs.2]
    rfl
theorem Gc (L:List Int)(j:Nat)(h:j<L.length):(L.map (Value.int .i64)).getD j undef = .int .i64 (L.getD j 0):=by simp[List.getD,h]
set_option maxHeartbeats 1000000 in
theorem SM (B g N CAP:Nat)(L:List Int)(ro:Option Addr)(o n rcap:Nat)(k p:Int)(vo:Value)(ys:List Int)(w:World)
    (h:Ch w B 3 1 (.slice (some ⟨g,0,none⟩) N CAP) N (L.map (Value.int .i64))) (hN:L.length=N) (hro:0<ys.length→ro=some ⟨g,o,none⟩) (hon:o+ys.length≤N) (hyn:ys.length≤n)
    (hy:Ints w vo ys) (hne:∀ b,0<ys.length→vo.ownBlock=some b→b≠g) (hp0:1≤p) (hp1:p≤20000) (hk0:0≤k) (hk1:k≤20000)
    (hL:∀ i,i<ys.length→0≤L.getD (o+i) 0∧L.getD (o+i) 0≤1000000000) (hY:∀ i,i<ys.length→0≤ys.getD i 0∧ys.getD i 0≤1000000000) (hn:n≤1073741824) :
    Calls Tryz.prog 148 #[.slice ro n rcap,.int .i64 k,vo,.int .i64 p] w fun e w'=>e = .returned (.tuple #[])∧Ch w' B 3 1 (.slice (some ⟨g,0,none⟩) N CAP) N ((DS L o k p ys).map (Value.int .i64))∧w.grownBy w' (some g):=by
  obtain⟨ad,hl,hi,hc,_⟩:=hy.facts Xf
  obtain⟨m,hm⟩:∃ m,m=ys.length:=⟨_,rfl⟩
  rw[← hm] at hl hi hc hro hon hyn hL hY hne
  have hb:∀ i,i<m→(ad i).block≠g:=by
    intro i hi'
    obtain⟨_,ao,cap,rfl,_,_,_,h4⟩:=hy
    obtain⟨b,o',rfl,_,_⟩:=h4 (by omega)
    have h5:=hi w i hi'
    rw[← hm] at h5
    rw[run_index_slice Xf b o' m cap i hi' w] at h5
    simp only[Result.ok.injEq,Value.pointer.injEq,Option.some.injEq,and_true] at h5
    rw[← h5]
    exact hne b (by omega) rfl
  have H1:=hid hm;have HN:=hid hN;have HO:=hid h
  clear hm hN h
  go_enter Tryz.func148,Tryz.ntmps148
  go_wp2
  go_loopw [12] (fun i wr=>∃ i':Nat,i'≤m∧i = .int .i64 i'∧Ch wr B 3 1 (.slice (some ⟨g,0,none⟩) N CAP) N ((DS L o k p (ys.take i')).map (Value.int .i64))∧w.grownBy wr (some g)) (fun i _=>m - (intOf i).toNat)
  case atStart=>exact⟨0,by omega,rfl,by simpa [R1] using HO.out,World.grownBy.refl _ _⟩
  case round =>
    obtain⟨i,hi',rfl,hO,hG⟩:=hrel
    by_cases hlt:i<m
    · obtain rfl:=hro (by omega)
      obtain⟨q0,q1,q2,q3⟩:=hO.at (j:=o+i) (by omega)
      have hstep:=Pe (L:=L) (ys:=ys) (o:=o) (i:=i) (k:=k) (p:=p) (by have:=H1.out;omega) (by have:=HN.out;omega)
      rw[Gc _ _ (by rw[Ss _ _ _ _ _ (by have:=HN.out;omega)];have:=HN.out;omega),hstep.1] at q0
      have q3':=q3 (.int .i64 ((L.getD (o+i) 0+k*ys.getD i 0)%p))
      rw[← List.map_set,hstep.2] at q3'
      have HQ:=hid q3'
      have g0:=hc i hlt
      have g1:=hG.cell g0 (by simpa using hb i hlt)
      obtain⟨l0,l1⟩:=hL i hlt
      obtain⟨y0,y1⟩:=hY i hlt
      clear hstep q3 q3' hc hL hY g0 q2
      generalize L.getD (o+i) 0=X at q0 HQ l0 l1
      generalize ys.getD i 0=Y at g1 HQ y0 y1
      have k0:0≤k*Y:=Int.mul_nonneg hk0 y0
      have k1:k*Y≤20000*1000000000:=Int.mul_le_mul hk1 y1 y0 (by omega)
      have HG:=hid hG
      clear hG hO
      go_wp2
      go_roundw
      case rel =>
        refine⟨i+1,by omega,by go_num,HQ.out,HG.out.trans ⟨rfl,rfl,rfl,by simp,fun b _ hb'=>?_⟩⟩
        exact Below.heap_setCell _ _ _ _ (by simpa using hb')
      case measure=>simp[intOf];omega
    · have hkn:=hid (show i=m by omega)
      have HO2:=hid hO;clear hO
      go_wp2
      go_end0
      exact⟨rfl,by have:=HO2.out;rwa [hkn.out,H1.out,List.take_of_length_le (Nat.le_refl _)] at this,hG⟩
theorem F6 (n p:Int)(hp:1≤p) : -p<n.tmod p∧n.tmod p<p:=by
  constructor
  · rcases Int.le_total 0 n with h | h
    · have:=Int.tmod_nonneg p h;omega
    · have h1:=Int.tmod_lt_of_pos (-n) (b:=p) (by omega)
      rw[Int.neg_tmod] at h1
      omega
  · exact Int.tmod_lt_of_pos n (by omega)
theorem Dx (n p:Int):(n.tmod p+p)%p=n%p:=by
  have h:n=n.tmod p+p*n.tdiv p:=(Int.tmod_add_mul_tdiv n p).symm
  rw[Int.add_emod_right]
  conv=>rhs;rw[h]
  rw[Int.add_mul_emod_self_left]
theorem tmod_neg (n p:Int)(hp:1≤p)(h:n.tmod p<0):n.tmod p+p=n%p:=by
  obtain⟨h1,h2⟩:=F6 n p hp
  rw[← Dx n p,Int.emod_eq_of_lt (by omega) (by omega)]
theorem V9 (n p:Int)(hp:1≤p)(h : ¬ n.tmod p<0):n.tmod p=n%p:=by
  obtain⟨h1,h2⟩:=F6 n p hp
  rw[← Dx n p,Int.add_emod_right,Int.emod_eq_of_lt (by omega) (by omega)]
theorem Zv (n p:Int)(w:World)(hp:1≤p)(hp1:p≤1000000) :
    Calls Tryz.prog 65 #[.int .i64 n,.int .i64 p] w fun e w'=>e = .returned (.int .i64 (n%p))∧w=w':=by
  obtain⟨h1,h2⟩:=F6 n p hp
  by_cases h0:0≤n
  · have hm:n.tmod p=n%p:=by rw[Int.tmod_eq_emod_of_nonneg h0]
    rw[hm] at h1 h2
    have HM:=hid hm;clear hm
    go_enter Tryz.func65,Tryz.ntmps65
    go_wp2
    go_ret
    exact⟨Ep (by rw[Int.add_emod_right,Int.emod_emod_of_dvd _ (Int.dvd_refl p)]),rfl⟩
  · go_enter Tryz.func65,Tryz.ntmps65
    go_wp2
    go_ret
    exact⟨Ep (by rw[← Dx n p,Int.add_emod_right]),rfl⟩
theorem Sb (n p:Int)(w:World)(hp:1≤p)(hp1:p≤1000000) :
    Calls Tryz.prog 166 #[.int .i64 n,.int .i64 p] w fun e w'=>e = .returned (.int .i64 (n%p))∧w=w':=by
  obtain⟨h1,h2⟩:=F6 n p hp
  by_cases h0:0≤n
  · have hm:n.tmod p=n%p:=by rw[Int.tmod_eq_emod_of_nonneg h0]
    have hnn:0≤n%p:=Int.emod_nonneg _ (by omega)
    have HM:=hid hm;clear hm
    go_enter Tryz.func166,Tryz.ntmps166
    go_wp2
    go_ret
    exact⟨rfl,rfl⟩
  · by_cases hneg:n.tmod p<0
    · go_enter Tryz.func166,Tryz.ntmps166
      go_wp2
      go_ret
      exact⟨Ep (tmod_neg n p hp hneg),rfl⟩
    · go_enter Tryz.func166,Tryz.ntmps166
      go_wp2
      go_ret
      exact⟨Ep (V9 n p hp (by omega)),rfl⟩
theorem LZ {W:World}{own:List Asn}{n:Int}:Spec Tryz.prog 61 [.int .i64 (n)] W own (fun v ow=>v = .bool (AJ n)∧ow=own):=Spec.same fun w _=>Cy n w
theorem Cr {W:World}{own:List Asn}{n:Int}:Spec Tryz.prog 59 [.int .i64 (n)] W own (fun v ow=>v = .bool (AJ n)∧ow=own):=Spec.same fun w _=>Bz n w
theorem LG {W:World}{own:List Asn}{n:Int}{p:Int}(hp:1≤p∧p≤1000000):Spec Tryz.prog 65 [.int .i64 (n),.int .i64 (p)] W own (fun v ow=>v = .int .i64 (n%p)∧ow=own):=Spec.same fun w _=>Zv n p w hp.1 hp.2
theorem Fm {W:World}{own:List Asn}{n:Int}{p:Int}(hp:1≤p∧p≤1000000):Spec Tryz.prog 166 [.int .i64 (n),.int .i64 (p)] W own (fun v ow=>v = .int .i64 (n%p)∧ow=own):=Spec.same fun w _=>Sb n p w hp.1 hp.2
theorem Q1 {own:List Asn}{v:Value}{xs:List Int}(h:Ent own fun w=>Ints w v xs)(hl:0<xs.length):Ent own fun _=>C7 v=false:=fun W w hs=>by
  cases e:C7 v with
  | false=>rfl
  | true =>
    have:=OH (h W w hs) e
    rw[this] at hl
    exact absurd hl (by simp)
def opA (b:Bool)(A:Asn):Asn:=pack (if b then[A] else[])
section
variable {P:Program}{W:World}{own:List Asn}{env:List (Nat × Value)}{m:Nat}{Q:Exit→Act→World→Prop}{A:Asn}{b:Bool}
theorem GE.opNo {e:Exit}(hb:b=false)(h:GE e Q m env W (Proofs.YtbmnnbglipkidaaGreatDoor.opA b A::own)):GE e Q m env W own:=fun a w hf hs=>h a w hf (by subst hb;exact St.pack (L:=[]) hs)
theorem GE.opYes {e:Exit}(hb:b=true)(h:GE e Q m env W (Proofs.YtbmnnbglipkidaaGreatDoor.opA b A::own)):GE e Q m env W (A::own):=fun a w hf hs=>h a w hf (by subst hb;exact St.pack (L:=[A]) hs)
theorem Ent.opA {V:World→Prop}{i:Nat}(h:own[i]?=some (Proofs.YtbmnnbglipkidaaGreatDoor.opA b A))(hb:b=true)(hV:Ent (A::own.eraseIdx i) V):Ent own V:=fun W w hs=>hV W w (by
  have h2:=hs.perm (Bv h)
  subst hb
  exact St.unpack h2)
end
section
variable {n:Int}{d:List Int}{x y:List Int}{p:Int}{i j:Nat}
theorem CK {own:List Asn}{v:Value}{us:List Value}{e k:Nat}(hH:BX n d i=false)(hin:i<smM n d→v=us.getD i undef)(hm:∀ k,k<(rSt n d).length→Ent own fun w=>Ints w (us.getD k undef) ((rSt n d).getD k []))
    (ho:own[k]?=some (opA (decide (smM n d+n.toNat≤i)) (ints e v (smR n d i)))):Ent own fun w=>Ints w v (smR n d i):=by
  by_cases h:i<smM n d
  · rw[hin h,smR,if_pos h]
    exact hm i h
  · unfold BX at hH
    rw[decide_eq_true (by omega),Bool.true_and] at hH
    have:=of_decide_eq_false hH
    exact Ent.opA ho (decide_eq_true (by omega)) (Ent.ints (i:=0) rfl)
theorem zero_eq (hS:(Ax n d).isSome=true)(hx:rtB (rSt n d) x=true)(hy:rtB (rSt n d) y=true):Dd (Af x 1 y)=decide (x=Av y):=by
  have hl:=Bm hS hx hy
  rw[Mg hS hx hy]
  by_cases e:x=Av y
  · rw[decide_eq_true e]
    refine List.all_eq_true.2 fun q hq=>?_
    obtain⟨k,hk,rfl⟩:=List.mem_iff_getElem.1 hq
    have e2:(lA x 1 y).getD k 0=(lA x 1 y)[k]:=by simp[List.getD,hk]
    have hk':k<x.length:=by rw[AF hl] at hk;exact hk
    have e3:=Bw y k
    rw[← e] at e3
    rw[BM hk' hl] at e2
    simp only[beq_iff_eq]
    omega
  · rw[decide_eq_false e]
    cases h:Dd (lA x 1 y) with
    | false=>rfl
    | true =>
      refine absurd (A0 (by rw[AC];exact hl.symm) fun k hk=>?_) e
      have hk2:k<(lA x 1 y).length:=by rw[AF hl];exact hk
      have h1:=(List.all_eq_true.1 h) _ (List.getElem_mem hk2)
      have e2:(lA x 1 y).getD k 0=(lA x 1 y)[k]:=by simp[List.getD,hk2]
      rw[BM hk hl] at e2
      simp only[beq_iff_eq] at h1
      rw[Bw]
      omega
theorem fX (hS:(Ax n d).isSome=true)(h1:(rSt n d).length+n.toNat≤i)(h2:i<2*(rSt n d).length+n.toNat){q:Nat}(hq:q=i - (rSt n d).length - n.toNat):Af (List.replicate ((rSt n d).getD q []).length 0) (-1) ((rSt n d).getD q [])=Av ((rSt n d).getD (i - (rSt n d).length - n.toNat) []):=by
  subst hq
  exact DV hS (Au (Bh (by omega)))
theorem aD (hS:(Ax n d).isSome=true)(hx:rtB (rSt n d) x=true)(hy:rtB (rSt n d) y=true)(hz:rtB (rSt n d) (Af x 1 y)=true):fdI n (rSt n d).length (A7 n d) (Af x 1 y)=l7I n (rSt n d) (lA x 1 y)∧0≤l7I n (rSt n d) (lA x 1 y)∧l7I n (rSt n d) (lA x 1 y)<smN n d:=by
  have hlo:=(rtOk hS).lo
  obtain⟨z1,z2,_⟩:=Aw hS hz
  have hw:Dk n (Af x 1 y)=true:=O4 (by omega) z2
  rw[(rtOk hS).ri (Bn (DF hS hx)),if_pos hw,Mg hS hx hy]
  rw[Mg hS hx hy] at hz
  exact⟨rfl,KG hS hz⟩
theorem gA (hS:(Ax n d).isSome=true)(hx:rtB (rSt n d) x=true)(q:Nat) : -12000≤(wtF n d x).getD q 0∧(wtF n d x).getD q 0≤12000:=by
  obtain⟨x1,x2,x3⟩:=Aw hS hx
  by_cases hq:q<n.toNat
  · exact(GR (rtOk hS).mat (fun k _=>by have:=x2 k;omega) x1 x3 hq).2
  · simp[List.getD,List.getElem?_eq_none (show (wtF n d x).length≤q by rw[Dj];omega)]
theorem Th (hS:(Ax n d).isSome=true)(hx:rtB (rSt n d) x=true):2≤EH n d x x∧EH n d x x≤2000000000:=by
  obtain⟨x1,x2,x3⟩:=Aw hS hx
  have hlo:=(rtOk hS).lo
  have hw:Dk n x=true:=O4 (by omega) x2
  have:=PH hS hw hw
  exact⟨TS hS hw hx,by omega⟩
theorem aJ (hS:(Ax n d).isSome=true)(h1:BX n d i=false)(h2:BX n d j=false)(hi:i<smN n d)(hj:j<smN n d)(hz:Dd (Af (smR n d i) 1 (smR n d j))=true):OJ n d p i n.toNat=rwF n d p i j:=by
  rw[zero_eq hS (CI hS hi h1) (CI hS hj h2)] at hz
  exact fN h1 h2 (of_decide_eq_true hz)
theorem fC (hS:(Ax n d).isSome=true)(h1:BX n d i=false)(h2:BX n d j=false)(hi:i<smN n d)(hj:j<smN n d)(hz:Dd (Af (smR n d i) 1 (smR n d j))=false)(hr:rtB (rSt n d) (Af (smR n d i) 1 (smR n d j))=true) :
    (List.replicate (smN n d) 0).set (fdI n (rSt n d).length (A7 n d) (Af (smR n d i) 1 (smR n d j))).toNat (nF n d (smR n d i) (smR n d j)%p)=rwF n d p i j:=by
  have ri:=CI hS hi h1
  have rj:=CI hS hj h2
  rw[zero_eq hS ri rj] at hz
  rw[(aD hS ri rj hr).1]
  rw[Mg hS ri rj] at hr
  exact gq hS hi hj h1 h2 (of_decide_eq_false hz) hr
theorem aH (hS:(Ax n d).isSome=true)(h1:BX n d i=false)(h2:BX n d j=false)(hi:i<smN n d)(hj:j<smN n d)(hz:Dd (Af (smR n d i) 1 (smR n d j))=false)(hr:rtB (rSt n d) (Af (smR n d i) 1 (smR n d j))=false):List.replicate (smN n d) 0=rwF n d p i j:=by
  have ri:=CI hS hi h1
  have rj:=CI hS hj h2
  rw[zero_eq hS ri rj] at hz
  rw[Mg hS ri rj] at hr
  exact fw h1 h2 (of_decide_eq_false hz) hr
theorem TO {t:Nat}:(OJ n d p i t).set (smM n d+t) ((crF n d (smR n d i)).getD t 0%p)=OJ n d p i (t+1):=by
  rw[OJ,OJ,A6]
theorem eo (h:smM n d+n.toNat≤i):smR n d i=Av ((rSt n d).getD (i - (rSt n d).length - n.toNat) []):=if_neg (by omega)
theorem fu (h:i<smM n d):BX n d i=false:=by unfold BX;rw[decide_eq_false (p:=smM n d≤i) (by omega)];rfl
theorem fH (h1:smM n d≤i)(h2:i<smM n d+n.toNat):BX n d i=true:=by unfold BX;rw[decide_eq_true h1,decide_eq_true h2];rfl
theorem MY (h:BX n d i=true):smM n d≤i∧i<smM n d+n.toNat:=by
  unfold BX at h
  simpa using h
theorem RK (n:Int)(d x:List Int):(crF n d x).length=x.length:=by simp[crF]
theorem Z5 (h:smM n d+n.toNat≤i):BX n d i=false:=by unfold BX;rw[decide_eq_false (p:=i<smM n d+n.toNat) (by omega),Bool.and_false]
end
theorem KF.stepq {n:Int}{d us:List Int}{p:Int}{i j k q1 q2:Nat}{v w:Int}(hS:(Ax n d).isSome=true)(h:KF n d p i j k us)(hi:i<smN n d)(hj:j<i)(hk:k<smN n d)(h1:q1=(i*smN n d+j)*smN n d+k)(h2:q2=(j*smN n d+i)*smN n d+k)(hv:v=DL n d i j k%p)(hw:w=(0 - v)%p) :
    KF n d p i j (k+1) ((us.set q1 v).set q2 w):=by
  subst h1 h2 hw
  exact h.step hS hi hj hk hv
theorem eX {n:Int}{d:List Int}{p:Int}{i j k:Nat}(hp:1≤p):0≤(rwF n d p i j).getD k 0∧(rwF n d p i j).getD k 0<p:=by
  by_cases hk:k<smN n d
  · rw[Gm hk]
    exact⟨Int.emod_nonneg _ (by omega),Int.emod_lt_of_pos _ (by omega)⟩
  · simp only[List.getD,List.getElem?_eq_none (show (rwF n d p i j).length≤k by rw[F5];omega),Option.getD_none]
    omega
theorem fS {N i j k q:Nat}(hN:N≤28)(hi:i<N)(hj:j<N)(hk:k<N)(hq:q=(i*N+j)*N+k):IntKind.i64.wrap (IntKind.i64.wrap (IntKind.i64.wrap (IntKind.i64.wrap ((i:Int)*(N:Int))+(j:Int))*(N:Int))+(k:Int))=(q:Int)∧q<N*N*N:=by
  have h1:=QJ hi hj hk
  have a1:i*N≤28*28:=Nat.mul_le_mul (by omega) hN
  have a2:(i*N+j)*N≤1000*28:=Nat.mul_le_mul (by omega) hN
  have e1:(i:Int)*(N:Int)=((i*N:Nat):Int):=(Int.natCast_mul i N).symm
  have e2:((i*N:Nat):Int)+(j:Int)=((i*N+j:Nat):Int):=rfl
  have e3:((i*N+j:Nat):Int)*(N:Int)=(((i*N+j)*N:Nat):Int):=(Int.natCast_mul _ N).symm
  rw[e1,Aj (x:=((i*N:Nat):Int)) (by omega) (by omega),e2,Aj (x:=((i*N+j:Nat):Int)) (by omega) (by omega),e3,Aj (x:=(((i*N+j)*N:Nat):Int)) (by omega) (by omega),Aj (by omega) (by omega)]
  exact⟨by rw[hq];rfl,by rw[hq];exact h1⟩
theorem HR {N:Nat}(hN:N≤28):IntKind.i64.wrap (IntKind.i64.wrap ((N:Int)*(N:Int))*(N:Int))=((N*N*N:Nat):Int)∧N*N*N≤21952:=by
  have a1:N*N≤28*28:=Nat.mul_le_mul hN hN
  have a2:N*N*N≤784*28:=Nat.mul_le_mul a1 hN
  have e1:(N:Int)*(N:Int)=((N*N:Nat):Int):=(Int.natCast_mul N N).symm
  have e3:((N*N:Nat):Int)*(N:Int)=((N*N*N:Nat):Int):=(Int.natCast_mul _ N).symm
  rw[e1,Aj (x:=((N*N:Nat):Int)) (by omega) (by omega),e3,Aj (by omega) (by omega)]
  exact⟨rfl,a2⟩
def Bq (n:Int)(d:List Int)(p:Int):Bool:=(Ax n d).isSome&&(AJ p&&decide (smN n d≤28))
def Cn (n:Int)(d:List Int)(p:Int):Int:=if Bq n d p then p else 0
def Bo (n:Int)(d:List Int)(p:Int):Int:=if Bq n d p then(smN n d:Int) else 0
def DJ (n:Int)(d:List Int)(p:Int):List Int:=if Bq n d p then EG n d p else[]
theorem Cq {n:Int}{d:List Int}{own:List Asn}{us ws:List Value}{e i k:Nat}(hm:∀ k,k<(rSt n d).length→Ent own fun w=>Ints w (us.getD k undef) ((rSt n d).getD k []))(ho:own[i]?=some (many (ints e) ws ((rSt n d).map Av)))
    (hu:us.length=(rSt n d).length) (hw:ws.length=(rSt n d).length) (hk:k<2*smM n d):Ent own fun w=>Ints w ((us++ws).getD k undef) ((Az n d).getD k []):=by
  unfold smM at hk
  by_cases h:k<(rSt n d).length
  · have e1:(us++ws).getD k undef=us.getD k undef:=by simp[List.getD,List.getElem?_append_left (show k<us.length by omega)]
    have e2:(Az n d).getD k []=(rSt n d).getD k []:=by simp[Az,List.getD,List.getElem?_append_left h]
    rw[e1,e2]
    exact hm k h
  · have e1:(us++ws).getD k undef=ws.getD (k - (rSt n d).length) undef:=by simp[List.getD,List.getElem?_append_right (show us.length≤k by omega),hu]
    have e2:(Az n d).getD k []=((rSt n d).map Av).getD (k - (rSt n d).length) []:=by simp[Az,List.getD,List.getElem?_append_right (show (rSt n d).length≤k by omega)]
    rw[e1,e2]
    exact Ent.manyInts ho ⟨by omega,by rw[List.length_map];omega⟩
theorem X7 {L:List (List Int)}{k:Nat}(hk:k<L.length):(L.take k).map Av++[Av (L.getD k [])]=(L.take (k+1)).map Av:=by rw[BU (d:=[]) hk,List.map_append];rfl
section
variable {n:Int}{d:List Int}{p:Int}{u v t:Nat}{ys:List Int}
theorem FU (hS:(Ax n d).isSome=true)(hu:u<2*smM n d):rtB (rSt n d) ((Az n d).getD u [])=true:=by
  rw[Ff hu]
  exact CI hS (CD hu) Mb
theorem EM (hu:u<2*smM n d)(hv:v<2*smM n d)(c:Nat):DL n d (spI n d u) (spI n d v) c=if (Az n d).getD u []=Av ((Az n d).getD v []) then(if smM n d≤c∧c<smM n d+n.toNat then(crF n d ((Az n d).getD u [])).getD (c - smM n d) 0 else 0)
    else if rtB (rSt n d) (lA ((Az n d).getD u []) 1 ((Az n d).getD v []))=true then(if (c:Int)=l7I n (rSt n d) (lA ((Az n d).getD u []) 1 ((Az n d).getD v [])) then nF n d ((Az n d).getD u []) ((Az n d).getD v []) else 0) else 0:=by
  rw[Ff hu,Ff hv,DL,Mb,Mb]
  rfl
theorem SpI.co0 (hS:(Ax n d).isSome=true)(h:SpI n d p u n.toNat v 0 ys)(hu:u<2*smM n d)(hv:v<u)(he:Cu ((Az n d).getD u []) (Av ((Az n d).getD v []))=true):SpI n d p u n.toNat v (smM n d+0) ys:=TabI.alter h fun a b c ha hb hc=>by
  rw[CL] at he
  have he2:=(of_decide_eq_true he).symm
  have hi:=CD (n:=n) (d:=d) hu
  have hj:=CD (n:=n) (d:=d) (u:=v) (by omega)
  have anti:=fun c=>CY hS hi hj c
  have h0:∀ c,c<smM n d→DL n d (spI n d u) (spI n d v) c=0:=fun c hc=>by rw[EM hu (by omega),if_pos he2,if_neg (by omega)]
  simp only[Xc]
  cases h1:BX n d a with
  | true=>exact .inl (by simp)
  | false =>
    cases h2:BX n d b with
    | true=>exact .inl (by simp)
    | false =>
      have ha2:=FG h1
      have hb2:=FG h2
      by_cases hab:((Ek n d a=u∧Ek n d b=v)∨(Ek n d a=v∧Ek n d b=u))∧c<smM n d
      · refine .inr ?_
        obtain⟨⟨q1,q2⟩ | ⟨q1,q2⟩,hc2⟩:=hab
        · rw[← ha2,← hb2,q1,q2,h0 c hc2,Int.zero_emod]
        · rw[← ha2,← hb2,q1,q2,anti,h0 c hc2]
          rfl
      · refine .inl ?_
        rw[Bool.eq_iff_iff]
        simp only[Bool.false_eq_true,if_false,decide_eq_true_eq]
        omega
theorem SpI.co (hS:(Ax n d).isSome=true)(h:SpI n d p u n.toNat v (smM n d+t) ys)(hu:u<2*smM n d)(hv:v<u)(ht:t<n.toNat)(he:Cu ((Az n d).getD u []) (Av ((Az n d).getD v []))=true){iu jv c0:Nat}(hiu:iu=spI n d u)(hjv:jv=spI n d v)(hc0:c0=smM n d+t){w:Int}(hw:w=(crF n d ((Az n d).getD v [])).getD t 0) :
    SpI n d p u n.toNat v (smM n d+(t+1)) ((ys.set ((jv*smN n d+iu)*smN n d+c0) (w%p)).set ((iu*smN n d+jv)*smN n d+c0) ((0 - w)%p)):=by
  subst hiu hjv hc0
  rw[CL] at he
  have he2:=(of_decide_eq_true he).symm
  have hy:=FU hS (show v<2*smM n d by omega)
  have hc:smM n d+t<smN n d:=by unfold smN;omega
  have e1:DL n d (spI n d u) (spI n d v) (smM n d+t) = -w:=by
    rw[EM hu (by omega),if_pos he2,if_pos (by omega),show smM n d+t - smM n d=t by omega,he2,L7 hS hy ht,hw]
  have e2:=CY hS (CD (n:=n) (d:=d) hu) (CD (n:=n) (d:=d) (u:=v) (by omega)) (smM n d+t)
  refine(TJ hS hu hv (t':=smM n d+(t+1)) (c0:=smM n d+t) hc h (w1:=(0 - w)%p) (w2:=w%p) (by rw[e1,Int.zero_sub]) (by rw[e2,e1,Int.neg_neg]) fun c _ => .inl ⟨fun q=>by omega,fun q=>by omega⟩).2
theorem SpI.coE (hS:(Ax n d).isSome=true)(h:SpI n d p u n.toNat v (smM n d+n.toNat) ys)(hu:u<2*smM n d)(hv:v<u)(he:Cu ((Az n d).getD u []) (Av ((Az n d).getD v []))=true):SpI n d p u n.toNat (v+1) 0 ys:=by
  rw[CL] at he
  refine h.skip hS hu hv fun c _ hc=>?_
  rw[EM hu (by omega),if_pos (of_decide_eq_true he).symm,if_neg (by omega)]
theorem SpI.N (hS:(Ax n d).isSome=true)(h:SpI n d p u n.toNat v 0 ys)(hu:u<2*smM n d)(hv:v<u)(he:Cu ((Az n d).getD u []) (Av ((Az n d).getD v []))=false){iu jv z:Nat}(hiu:iu=spI n d u)(hjv:jv=spI n d v)
    (hz:l7I n (rSt n d) (Af ((Az n d).getD u []) 1 ((Az n d).getD v []))=(z:Int)) {w:Int} (hw:w=nF n d ((Az n d).getD u []) ((Az n d).getD v [])) :
    SpI n d p u n.toNat (v+1) 0 ((ys.set ((iu*smN n d+jv)*smN n d+z) (w%p)).set ((jv*smN n d+iu)*smN n d+z) ((0 - w)%p))∧z<smN n d:=by
  subst hiu hjv
  rw[CL] at he
  have he2 : ¬ (Az n d).getD u []=Av ((Az n d).getD v []):=fun q=>of_decide_eq_false he q.symm
  have hx:=FU hS hu
  have hy:=FU hS (show v<2*smM n d by omega)
  rw[Mg hS hx hy] at hz
  have hr:rtB (rSt n d) (lA ((Az n d).getD u []) 1 ((Az n d).getD v []))=true:=by
    cases e:rtB (rSt n d) (lA ((Az n d).getD u []) 1 ((Az n d).getD v [])) with
    | true=>rfl
    | false =>
      rw[rtB,Bool.or_eq_false_iff] at e
      have h1:=OE e.1
      have h2:=OE e.2
      rw[l7I,if_neg (by omega),if_pos h2] at hz
      omega
  have hzl:=KG hS hr
  have e1:∀ c,DL n d (spI n d u) (spI n d v) c=if c=z then w else 0:=fun c=>by
    rw[EM hu (by omega),if_neg he2,if_pos hr,hz,hw]
    by_cases q:c=z
    · rw[if_pos (by omega),if_pos q]
    · rw[if_neg (by omega),if_neg q]
  have e2:=CY hS (CD (n:=n) (d:=d) hu) (CD (n:=n) (d:=d) (u:=v) (by omega)) z
  have hzN:z<smN n d:=by omega
  refine⟨SpI.skip hS (TJ hS hu hv (t':=smN n d) (c0:=z) hzN h (w1:=w%p) (w2:=(0 - w)%p) (by rw[e1,if_pos rfl]) (by rw[e2,e1,if_pos rfl,Int.zero_sub]) fun c hc=>?_).1 hu hv fun c hc q=>by omega,hzN⟩
  by_cases q:c=z
  · exact .inl ⟨fun _ => .inr q,fun _=>hc⟩
  · exact .inr (by rw[e1,if_neg q])
theorem SpI.no (hS:(Ax n d).isSome=true)(h:SpI n d p u n.toNat v 0 ys)(hu:u<2*smM n d)(hv:v<u)(he:Cu ((Az n d).getD u []) (Av ((Az n d).getD v []))=false)(hz:l7I n (rSt n d) (Af ((Az n d).getD u []) 1 ((Az n d).getD v []))<0):SpI n d p u n.toNat (v+1) 0 ys:=by
  rw[CL] at he
  have he2 : ¬ (Az n d).getD u []=Av ((Az n d).getD v []):=fun q=>of_decide_eq_false he q.symm
  have hx:=FU hS hu
  have hy:=FU hS (show v<2*smM n d by omega)
  rw[Mg hS hx hy] at hz
  refine h.skip hS hu hv fun c _ _=>?_
  rw[EM hu (by omega),if_neg he2,if_neg fun hr=>by have:=KG hS hr;omega]
theorem SpI.wtq (hS:(Ax n d).isSome=true){kk:Nat}(h:SpI n d p u kk 0 0 ys)(hu:u<2*smM n d)(hk:kk<n.toNat){w:Int}(hw:w=(wtF n d ((Az n d).getD u [])).getD kk 0){iu hq:Nat}(hiu:iu=spI n d u)(hhq:hq=smM n d+kk) :
    SpI n d p u (kk+1) 0 0 ((ys.set ((hq*smN n d+iu)*smN n d+iu) (w%p)).set ((iu*smN n d+hq)*smN n d+iu) ((0 - w)%p)):=by
  subst hiu hhq
  exact h.wt hS hu hk hw
end
end Go.Proofs.YtbmnnbglipkidaaGreatDoor
