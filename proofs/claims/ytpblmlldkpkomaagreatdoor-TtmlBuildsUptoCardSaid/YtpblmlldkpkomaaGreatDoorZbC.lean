/-
  Texts put together, in build order: TI TJ TK TL TM TN TO.
-/
import Derived.Test.YtpblmlldkpkomaaGreatDoorZbB
set_option linter.all false

section
/-
  Plain facts: an element's attributes and place are as they may be, both sides.
-/
set_option linter.all false
namespace Go.Mo
open Go Go.W Go.Lib
set_option maxRecDepth 100000
noncomputable section
theorem nft:¬ (false=true):=by simp
def cntA (A l:List Ln):Nat:=(l.filter (fun w=>A.contains w)).length
theorem cntA_cons (w:Ln) (A l:List Ln) (h:w ∉ A):cntA (w::A) l=l.count w+cntA A l:=by
 unfold cntA
 induction l with
 | nil=>rfl
 | cons x l ih =>
  rw [List.filter_cons,List.filter_cons,List.count_cons]
  by_cases e:x=w
  ·subst e
   have h1:(x::A).contains x=true:=by simp
   have h2:A.contains x=false:=by simpa using h
   have h3:(x == x)=true:=by simp
   rw [h1,h2,h3,if_pos rfl,if_neg nft,if_pos rfl,List.length_cons,ih]
   omega
  ·have h1:(w::A).contains x=A.contains x:=by
    rw [List.contains_cons]
    have:(x == w)=false:=by simpa using e
    rw [this,Bool.false_or]
   have h3:(x == w)=false:=by simpa using e
   rw [h1,h3,if_neg nft,Nat.add_zero]
   cases A.contains x with
   | true=>rw [if_pos rfl,if_pos rfl,List.length_cons,List.length_cons,ih]; omega
   | false=>rw [if_neg nft,if_neg nft,ih]
theorem cnt_le {l:List Ln} (h:l.Nodup) (w:Ln):l.count w≤1:=by
 induction l with
 | nil=>simp
 | cons x l ih =>
  rw [List.nodup_cons] at h
  rw [List.count_cons]
  by_cases e:x=w
  ·subst e
   rw [if_pos (by simp),List.count_eq_zero_of_not_mem h.1]
   omega
  ·have:=ih h.2
   rw [if_neg (by simpa using e)]
   omega
theorem cntA_all {A l:List Ln} (hA:A.Nodup) (hl:l.Nodup):cntA A l≤A.length∧(cntA A l=A.length↔∀ w∈A,w∈l):=by
 induction A with
 | nil =>
  have:cntA [] l=0:=by unfold cntA; simp
  rw [this]
  simp
 | cons w A ih =>
  rw [List.nodup_cons] at hA
  obtain ⟨h1,h2⟩:=ih hA.2
  rw [cntA_cons w A l hA.1,List.length_cons]
  have hc:=cnt_le hl w
  refine ⟨by omega,fun h=>?_,fun h=>?_⟩
  ·have e1:l.count w=1:=by omega
   have e2:cntA A l=A.length:=by omega
   intro v hv
   rcases List.mem_cons.1 hv with rfl | hv
   ·exact List.count_pos_iff.1 (by omega)
   ·exact h2.1 e2 v hv
  ·have e1:0<l.count w:=List.count_pos_iff.2 (h w List.mem_cons_self)
   have e2:=h2.2 fun v hv=>h v (List.mem_cons_of_mem _ hv)
   omega
def cntE (A M:List Ln):Nat→List At→Option Nat
 | c,[]=>some c
 | c,a::r=>if A.contains a.1 then cntE A M (c+1) r else if M.contains a.1 then cntE A M c r else none
theorem cntE_eq (A M:List Ln):∀ (l:List At) (c:Nat),cntE A M c l=if l.all (fun a=>A.contains a.1 || M.contains a.1) then some (c+cntA A (l.map Prod.fst)) else none
 | [],c=>by simp [cntE,cntA]
 | a::l,c=>by
  unfold cntE
  have e:cntA A ((a::l).map Prod.fst)=(if A.contains a.1 then 1 else 0)+cntA A (l.map Prod.fst):=by
   unfold cntA
   rw [List.map_cons,List.filter_cons]
   cases A.contains a.1 with
   | true=>rw [if_pos rfl,if_pos rfl,List.length_cons]; omega
   | false=>rw [if_neg nft,if_neg nft]; omega
  rw [e,List.all_cons,cntE_eq A M l (c+1),cntE_eq A M l c]
  cases A.contains a.1 with
  | true =>
   rw [if_pos rfl,if_pos rfl,Bool.true_or,Bool.true_and]
   by_cases h:(l.all fun a=>A.contains a.1 || M.contains a.1)=true
   ·rw [if_pos h,if_pos h]; congr 1; omega
   ·rw [if_neg h,if_neg h]
  | false =>
   rw [if_neg nft,if_neg nft,Bool.false_or]
   cases M.contains a.1 with
   | true=>rw [if_pos rfl,Bool.true_and,Nat.zero_add]
   | false=>rw [if_neg nft,Bool.false_and,if_neg nft]
theorem attS_cnt {n:Nd} (hu:uniqN n):attS n=(match cntE (alwT n.1) (mayT n.1) 0 n.2.2.1 with | some c=>decide (c=(alwT n.1).length) | none=>false):=by
 obtain ⟨t1,t2,_⟩:=tabs_ok n.1
 rw [cntE_eq]
 have e1:(n.2.2.1.all fun a=>(alwT n.1).contains a.1 || (mayT n.1).contains a.1)=((atsL n).all fun a=>(allT n.1).contains a.1):=by
  show _=n.2.2.1.all _
  congr 1
  funext a
  rw [Bool.eq_iff_iff,Bool.or_eq_true,List.contains_iff_mem,List.contains_iff_mem,List.contains_iff_mem]
  exact (t1 a.1).symm
 rw [e1]
 unfold attS
 cases (atsL n).all fun a=>(allT n.1).contains a.1 with
 | false=>rw [Bool.false_and,if_neg nft]
 | true =>
  rw [Bool.true_and,if_pos rfl,Nat.zero_add]
  have h:=(cntA_all (l:=n.2.2.1.map Prod.fst) t2 hu).2
  show _=decide (cntA (alwT n.1) (n.2.2.1.map Prod.fst)=(alwT n.1).length)
  rw [Bool.eq_iff_iff,List.all_eq_true,decide_eq_true_eq,h]
  exact ⟨fun k w hw=>by have:=k w hw; rwa [List.contains_iff_mem] at this,fun k w hw=>by rw [List.contains_iff_mem]; exact k w hw⟩
theorem attributed_eq {n:Nd} (hs:smN n) (hu:uniqN n):q70 fuelH n=some (attS n):=by
 have hl:=hs.asz
 have hfu:=fuelH_eq
 obtain ⟨_,_,t3,t4,_⟩:=tabs_ok n.1
 unfold q70
 rw [attributes_eq,bnd_some',jn_e]
 have h:=drop_loop (R:=Bool) (s:=n.2.2.1) (F:=fun v3 (v4:(List Ln)×(List Ln)×Int×Int) =>
   cnd (ilt v4.2.2.2 (len n.2.2.1))
    (grd (inb v4.2.2.2 (len n.2.2.1))
     (bnd (q69 fuelH (v4.1,(lget n.2.2.1 (toN v4.2.2.2) ([],[])).1)) fun v5 =>
     cnd v5
      (v3 (v4.1,v4.2.1,w64 (iadd v4.2.2.1 (1:Int)),w64 (iadd v4.2.2.2 (1:Int))))
      (bnd (q69 fuelH (v4.2.1,(lget n.2.2.1 (toN v4.2.2.2) ([],[])).1)) fun v6 =>
      cnd (bnot v6)
       (some false)
       (v3 (v4.1,v4.2.1,v4.2.2.1,w64 (iadd v4.2.2.2 (1:Int)))))))
    (some (ieq v4.2.2.1 (len v4.1))))
  (fun (c:Nat) (j:Nat)=>(alwT n.1,mayT n.1,(c:Int),(j:Int))) (fun c r=>some (match cntE (alwT n.1) (mayT n.1) c r with | some c=>decide (c=(alwT n.1).length) | none=>false)) (fun j c=>c≤j) ?_ fuelH 0 0 (by omega) (Nat.zero_le _) (Nat.le_refl _)
 ·refine Eq.trans h ?_
  rw [attS_cnt hu,List.drop_zero]
 ·intro self c j hj hc hself
  by_cases hjl:j<n.2.2.1.length
  ·have hin:inb (j:Int) (len n.2.2.1)=true:=inb_t (by simp only [len]; omega)
   have hw:w64 (iadd (j:Int) 1)=((j+1:Nat):Int):=w64_succ hjl (by omega)
   have hwc:w64 (iadd (c:Int) 1)=((c+1:Nat):Int):=w64_succ (n:=n.2.2.1.length) (by omega) (by omega)
   dsimp only
   rw [cnd_t (ilt_t (by simp only [len]; omega)),grd_t hin,lget_i hjl,hw,hwc,List.drop_eq_getElem_cons hjl,among_eq (by omega),bnd_some',among_eq (by omega),bnd_some']
   unfold cntE
   cases (alwT n.1).contains n.2.2.1[j].1 with
   | true =>
    rw [cnd_t rfl,if_pos rfl]
    exact hself (c+1) (j+1) (by omega) (by omega) (by omega)
   | false =>
    rw [cnd_f rfl,if_neg nft]
    cases (mayT n.1).contains n.2.2.1[j].1 with
    | true =>
     rw [cnd_f (by rfl),if_pos rfl]
     exact hself c (j+1) (by omega) (by omega) (by omega)
    | false =>
     rw [cnd_t (by rfl),if_neg nft]
  ·obtain rfl:j=n.2.2.1.length:=by omega
   dsimp only
   rw [cnd_f (ilt_f (by simp only [len]; omega)),List.drop_length]
   unfold cntE
   dsimp only
   congr 1
   rw [Bool.eq_iff_iff,decide_eq_true_eq]
   constructor
   ·intro h
    by_cases e:(c:Int)=len (alwT n.1)
    ·simp only [len] at e; omega
    ·rw [ieq_f e] at h; cases h
   ·intro h
    exact ieq_t (by simp only [len]; omega)
theorem alws_loop (A:List Ln) (hA:A.length≤1000) (c:List Ln) (hc:c.length≤4000000):fixN (fun v4 (v5:(List Ln)×Int) =>
   cnd (ilt v5.2 (len A))
    (grd (inb v5.2 (len A))
     (bnd (r21_has fuelH (v5.1,lget A (toN v5.2) [])) fun v6 =>
     cnd (bnot v6)
      (some false)
      (v4 (v5.1,w64 (iadd v5.2 (1:Int))))))
    (some true)) fuelH (c,0)=some (A.all fun w=>c.contains w):=by
 have hfu:=fuelH_eq
 refine (seek_loop (l:=A) (fun i=>(c,(i:Int))) (fun w:Ln=>!c.contains w) (fun _ _=>some false) (some true) (by omega) (fun self i h=>?_) (fun self=>?_)).trans ?_
 ·have hin:inb (i:Int) (len A)=true:=inb_t (by simp only [len]; omega)
  dsimp only
  rw [cnd_t (ilt_t (by simp only [len]; omega)),grd_t hin,lget_i h,w64_succ h (by omega),has_eq hc,bnd_some']
  cases c.contains A[i]<;>rfl
 ·dsimp only
  rw [cnd_f (ilt_f (by simp only [len]; omega))]
 ·rw [seek_all]
  have e:(A.all fun w=>c.contains w)=!(A.any fun w=>!c.contains w):=by
   induction A with
   | nil=>rfl
   | cons w A ih=>rw [List.all_cons,List.any_cons,ih (by simp only [List.length_cons] at hA; omega)]; cases c.contains w<;>rfl
  rw [e]
  cases (A.any fun w=>!c.contains w)<;>rfl
theorem fits_eq {n:Nd} (hs:smN n):r21_fits fuelH n=some (attS n):=by
 have hl:=hs.asz
 have hfu:=fuelH_eq
 obtain ⟨_,_,t3,t4,t5⟩:=tabs_ok n.1
 unfold r21_fits
 rw [table_eq,bnd_some',jn_e]
 have h:=drop_loop (R:=Bool) (s:=n.2.2.1) (F:=fun v8 (v9:(List Ln)×(List Ln)×Int) =>
   cnd (ilt v9.2.2 (len n.2.2.1))
    (grd (inb v9.2.2 (len n.2.2.1))
     (bnd (r21_has fuelH (v9.1,(lget n.2.2.1 (toN v9.2.2) ([],[])).1)) fun v10 =>
     cnd (bnot v10)
      (some false)
      (grd (room (iadd (len v9.2.1) (len ([(lget n.2.2.1 (toN v9.2.2) ([],[])).1]:List Ln))) 16)
       (v8 (v9.1,lapp v9.2.1 ([(lget n.2.2.1 (toN v9.2.2) ([],[])).1]:List Ln),w64 (iadd v9.2.2 (1:Int)))))))
    (fixN (fun v4 (v5:(List Ln)×Int) =>
     cnd (ilt v5.2 (len (alwT n.1)))
      (grd (inb v5.2 (len (alwT n.1)))
       (bnd (r21_has fuelH (v5.1,lget (alwT n.1) (toN v5.2) [])) fun v6 =>
       cnd (bnot v6)
        (some false)
        (v4 (v5.1,w64 (iadd v5.2 (1:Int))))))
      (some true)) fuelH (v9.2.1,0)))
  (fun (c:List Ln) (j:Nat)=>(allT n.1,c,(j:Int))) (fun c r=>some (r.all (fun a=>(allT n.1).contains a.1) && (alwT n.1).all (fun w=>(c++r.map Prod.fst).contains w))) (fun j c=>c.length≤j) ?_ fuelH 0 [] (by omega) (Nat.zero_le _) (Nat.le_refl _)
 ·refine h.trans ?_
  rw [List.drop_zero,List.nil_append]
  rfl
 ·intro self c j hj hc hself
  by_cases hjl:j<n.2.2.1.length
  ·have hin:inb (j:Int) (len n.2.2.1)=true:=inb_t (by simp only [len]; omega)
   have hw:w64 (iadd (j:Int) 1)=((j+1:Nat):Int):=w64_succ hjl (by omega)
   dsimp only
   rw [cnd_t (ilt_t (by simp only [len]; omega)),grd_t hin,lget_i hjl,hw,List.drop_eq_getElem_cons hjl,has_eq (by omega),bnd_some',List.all_cons,List.map_cons]
   cases (allT n.1).contains n.2.2.1[j].1 with
   | false=>rw [cnd_t (by rfl),Bool.false_and,Bool.false_and]
   | true =>
    rw [cnd_f (by rfl),Bool.true_and,grd_t (room_t (by simp only [iadd,len,List.length_cons,List.length_nil]; omega))]
    refine (hself (c++[n.2.2.1[j].1]) (j+1) (by omega) (by omega) (by rw [List.length_append]; simp only [List.length_cons,List.length_nil]; omega)).trans ?_
    rw [List.append_assoc]
    rfl
  ·obtain rfl:j=n.2.2.1.length:=by omega
   dsimp only
   rw [cnd_f (ilt_f (by simp only [len]; omega)),List.drop_length,List.all_nil,Bool.true_and,List.map_nil,List.append_nil]
   exact alws_loop _ (by omega) c (by omega)
end
end Go.Mo
end

section
/-
  Plain facts: a node is added to a document, by the program.
-/
set_option linter.all false
namespace Go.Mo
open Go Go.W Go.Lib
set_option maxRecDepth 100000
noncomputable section
theorem pr_eta {α β:Type} (p:α×β):(p.1,p.2)=p:=rfl
theorem lst_id {α:Type} (xs:List α) (d:α):lstS xs (lstG xs d)=xs:=by
 unfold lstS lstG
 cases xs with
 | nil=>rfl
 | cons x xs =>
  have h:(x::xs).length - 1<(x::xs).length:=by simp
  rw [List.getD_eq_getElem?_getD,List.getElem?_eq_getElem h,Option.getD_some]
  exact List.set_getElem_self _
theorem last_g {α:Type} {xs:List α} (h:xs≠[]) (hl:xs.length≤4000000):inb (w64 (isub (len xs) 1)) (len xs)=true∧ieq (w64 (isub (len xs) 1)) (isub (len xs) 1)=true∧ieq (ofN (toN (w64 (isub (len xs) 1)))) (isub (len xs) 1)=true∧toN (w64 (isub (len xs) 1))=xs.length - 1:=by
 have h1:1≤xs.length:=by cases xs with | nil=>exact absurd rfl h | cons _ _=>simp
 have e:w64 (isub (len xs) 1)=((xs.length - 1:Nat):Int):=by
  simp only [isub,len]
  rw [w64_id (by omega)]
  omega
 have e2:isub (len xs) 1=((xs.length - 1:Nat):Int):=by simp only [isub,len]; omega
 rw [e,e2]
 refine ⟨inb_t (by simp only [len]; omega),ieq_t rfl,ieq_t ?_,by simp [toN]⟩
 simp [toN,ofN]
theorem lget_lst {α:Type} {xs:List α} (h:xs≠[]) (d:α):lget xs (xs.length - 1) d=lstG xs d:=by
 unfold lget lstG
 rfl
theorem lset_lst {α:Type} (xs:List α) (x:α):lset xs (xs.length - 1) x=lstS xs x:=rfl
def evY:Ev:=(0,(0,0),[],0,[],[])
def rowsL (d:Doc):List Row:=(lstG d.2.2.2.2.2.2.1 evY).2.2.2.2.2
def rowL (d:Doc):Row:=lstG (rowsL d) []
def runZ:Run:=([],(0,false,false),[])
def setR (d:Doc) (rows:List Row):Doc:=(d.1,d.2.1,d.2.2.1,d.2.2.2.1,d.2.2.2.2.1,d.2.2.2.2.2.1,lstS d.2.2.2.2.2.2.1 ((lstG d.2.2.2.2.2.2.1 evY).1,(lstG d.2.2.2.2.2.2.1 evY).2.1,(lstG d.2.2.2.2.2.2.1 evY).2.2.1,(lstG d.2.2.2.2.2.2.1 evY).2.2.2.1,(lstG d.2.2.2.2.2.2.1 evY).2.2.2.2.1,rows),d.2.2.2.2.2.2.2)
def MaxID:Int:=1099511627776
def addTt (d:Doc) (n:Nd):Int×Doc :=
 (fstE (fstE (ratP (valT n [114,97,116,101])).2 (flT n [100,114,111,112]).2) (numT n [108,97,115,116] MaxID).2,(valT n [116,105,116,108,101],valT n [108,97,110,103],(ratP (valT n [114,97,116,101])).1,(flT n [100,114,111,112]).1,(numT n [108,97,115,116] MaxID).1,d.2.2.2.2.2.1,d.2.2.2.2.2.2.1,d.2.2.2.2.2.2.2))
def regT (n:Nd):Reg:=(valT n [110,97,109,101],(numT n [116,111,112] 32).1,(numT n [104,101,105,103,104,116] 32).1,(numT n [108,101,102,116] 32).1,(numT n [119,105,100,116,104] 32).1,b8 (w64 (iadd (chT gl0 n [97,108,105,103,110]).1 1)),ieq (chT [[84,79,80],[66,79,84,84,79,77]] n [97,110,99,104,111,114]).1 1)
def addRg (d:Doc) (n:Nd):Int×Doc :=
 (fstE (fstE (fstE (fstE (fstE (numT n [116,111,112] 32).2 (numT n [104,101,105,103,104,116] 32).2) (numT n [108,101,102,116] 32).2) (numT n [119,105,100,116,104] 32).2) (chT gl0 n [97,108,105,103,110]).2) (chT [[84,79,80],[66,79,84,84,79,77]] n [97,110,99,104,111,114]).2,
  (d.1,d.2.1,d.2.2.1,d.2.2.2.1,d.2.2.2.2.1,d.2.2.2.2.2.1++[regT n],d.2.2.2.2.2.2.1,d.2.2.2.2.2.2.2))
def evT (n:Nd):Ev:=((numT n [105,100] MaxID).1,((frmT n [105,110]).1,(frmT n [111,117,116]).1),valT n [114,101,103,105,111,110],(kndP (valT n [107,105,110,100])).1,valT n [115,112,101,97,107,101,114],[])
def addEv (d:Doc) (n:Nd):Int×Doc :=
 (fstE (fstE (fstE (numT n [105,100] MaxID).2 (frmT n [105,110]).2) (frmT n [111,117,116]).2) (kndP (valT n [107,105,110,100])).2,
  (d.1,d.2.1,d.2.2.1,d.2.2.2.1,d.2.2.2.2.1,d.2.2.2.2.2.1,d.2.2.2.2.2.2.1++[evT n],d.2.2.2.2.2.2.2))
def runT (n:Nd):Run:=([],((colT n).1,(flT n [105,116,97,108,105,99]).1,(flT n [117,110,100,101,114,108,105,110,101]).1),valT n [114,117,98,121])
def addRn (d:Doc) (n:Nd):Int×Doc :=
 (fstE (fstE (colT n).2 (flT n [105,116,97,108,105,99]).2) (flT n [117,110,100,101,114,108,105,110,101]).2,setR d (lstS (rowsL d) (rowL d++[runT n])))
def addTx (d:Doc) (n:Nd):Int×Doc:=(0,setR d (lstS (rowsL d) (lstS (rowL d) (n.2.1,(lstG (rowL d) runZ).2))))
def addS (d:Doc) (n:Nd):Int×Doc :=
 if n.1=[116,116] then addTt d n else if n.1=[114,101,103,105,111,110] then addRg d n else if n.1=[112] then addEv d n else if n.1=[114,111,119] then (0,setR d (rowsL d++[[]])) else if n.1=[114,117,110] then addRn d n else addTx d n
structure HasR (d:Doc) (n:Nd):Prop where
 rg:d.2.2.2.2.2.1.length≤1000000
 ev:d.2.2.2.2.2.2.1.length≤1000000
 row:n.1≠[116,116]→n.1≠[114,101,103,105,111,110]→n.1≠[112]→d.2.2.2.2.2.2.1≠[]∧(rowsL d).length≤1000000
 run:n.1≠[116,116]→n.1≠[114,101,103,105,111,110]→n.1≠[112]→n.1≠[114,111,119]→rowsL d≠[]∧(rowL d).length≤1000000
 tx:n.1≠[116,116]→n.1≠[114,101,103,105,111,110]→n.1≠[112]→n.1≠[114,111,119]→n.1≠[114,117,110]→rowL d≠[]
theorem app_last {α:Type} (xs:List α) (y v:α):lstS (xs++[y]) v=xs++[v]:=by
 unfold lstS
 rw [List.length_append,List.length_cons,List.length_nil,Nat.add_sub_cancel,List.set_append_right _ _ (Nat.le_refl _),Nat.sub_self]
 rfl
theorem has_of {n:Nd} (ha:attS n=true) {w:Ln} (hw:(alwT n.1).contains w=true):hasT n w=true:=by
 unfold attS at ha
 rw [Bool.and_eq_true,List.all_eq_true,List.all_eq_true] at ha
 rw [List.contains_iff_mem] at hw
 have:=ha.2 w hw
 rw [List.contains_iff_mem] at this
 exact (attrF_has w _).2 this
theorem knd_err (s:Ln):(kndP s).2=0∨(kndP s).2=4:=by
 unfold kndP
 have:∀ (l:List Ln) (k:Nat),(seekL (fun k:Ln=>seq k s) (fun i _=>(b8 (w64 (iadd (i:Int) 1)),(0:Int))) ((0:UInt8),(4:Int)) k l).2=0∨(seekL (fun k:Ln=>seq k s) (fun i _=>(b8 (w64 (iadd (i:Int) 1)),(0:Int))) ((0:UInt8),(4:Int)) k l).2=4:=by
  intro l
  induction l with
  | nil=>intro k; exact Or.inr rfl
  | cons x l ih =>
   intro k
   unfold seekL
   by_cases h:seq x s=true
   ·rw [if_pos h]; exact Or.inl rfl
   ·rw [if_neg h]; exact ih (k+1)
 exact this _ 0
theorem sq {a b:Ln} (h:a=b):seq a b=true:=by rw [seq_t]; exact h
theorem sqf {a b:Ln} (h:¬ a=b):seq a b=false:=by rw [seq_dec]; simpa using h
theorem add_eq {d:Doc} {n:Nd} (hs:smN n) (hu:uniqN n) (ha:attS n=true) (hr:HasR d n):ttml_add fuelH (d,n)=some (addS d n):=by
 have hMax:(1099511627776:Int)≤4611686018427387904:=by omega
 unfold ttml_add addS
 dsimp only
 simp only [lst_id,pr_eta]
 rw [jn_e]
 by_cases c1:n.1=[116,116]
 ·rw [cnd_t (sq c1),if_pos c1,vtext_eq hs,bnd_some']
  dsimp only
  rw [vtext_eq hs,bnd_some']
  dsimp only
  rw [vtext_eq hs,bnd_some']
  dsimp only
  rw [trate_eq,bnd_some']
  rw [fail_eq,bnd_some',vfl_eq hs hu,bnd_some']
  dsimp only
  rw [vnum_eq hs _ _ hMax,bnd_some']
  rfl
 rw [cnd_f (sqf c1),if_neg c1]
 by_cases c2:n.1=[114,101,103,105,111,110]
 ·have h1:hasT n [97,108,105,103,110]=true:=has_of ha (by rw [c2]; rfl)
  have h2:hasT n [97,110,99,104,111,114]=true:=has_of ha (by rw [c2]; rfl)
  rw [cnd_t (sq c2),if_pos c2,vtext_eq hs,bnd_some']
  dsimp only
  rw [vcell_eq hs,bnd_some']
  dsimp only
  rw [vcell_eq hs,bnd_some']
  dsimp only
  rw [vcell_eq hs,bnd_some']
  dsimp only
  rw [vcell_eq hs,bnd_some']
  dsimp only
  rw [vch_eq hs _ (by decide) h1,bnd_some']
  dsimp only
  rw [vch_eq hs _ (by simp) h2,bnd_some']
  dsimp only
  rw [grd_t (room_t (by have:=hr.rg; simp only [iadd,len,List.length_cons,List.length_nil]; omega))]
  rfl
 rw [cnd_f (sqf c2),if_neg c2]
 by_cases c3:n.1=[112]
 ·rw [cnd_t (sq c3),if_pos c3,vnum_eq hs _ _ hMax,bnd_some']
  dsimp only
  rw [vfrm_eq hs,bnd_some']
  dsimp only
  rw [vfrm_eq hs,bnd_some']
  dsimp only
  rw [vtext_eq hs,bnd_some']
  dsimp only
  rw [vtext_eq hs,bnd_some']
  dsimp only
  rw [kind_eq2,bnd_some',jn_e]
  have key:∀ e:Int,e=fstE (fstE (fstE (fstE 0 (numT n [105,100] 1099511627776).2) (frmT n [105,110]).2) (frmT n [111,117,116]).2) (kndP (valT n [107,105,110,100])).2 →
    (bnd (q71 fuelH ((n,e),[115,112,101,97,107,101,114])) fun v23 =>
     grd (room (iadd (len d.2.2.2.2.2.2.1) (len ([((0:Int),(((0:Int),(0:Int)),([],((0:UInt8),([],[])))))]:List Ev))) 88)
     (some (v23.2.2,d.1,d.2.1,d.2.2.1,d.2.2.2.1,d.2.2.2.2.1,d.2.2.2.2.2.1,lstS (lapp d.2.2.2.2.2.2.1 ([((0:Int),(((0:Int),(0:Int)),([],((0:UInt8),([],[])))))]:List Ev)) ((numT n [105,100] 1099511627776).1,((frmT n [105,110]).1,(frmT n [111,117,116]).1),valT n [114,101,103,105,111,110],(kndP (valT n [107,105,110,100])).1,v23.1,([]:List Row)),d.2.2.2.2.2.2.2)))=some (addEv d n):=by
   intro e he
   rw [vtext_eq hs,bnd_some',grd_t (room_t (by have:=hr.ev; simp only [iadd,len,List.length_cons,List.length_nil]; omega))]
   have:∀ x:Ev,lapp d.2.2.2.2.2.2.1 [x]=d.2.2.2.2.2.2.1++[x]:=fun _=>rfl
   rw [this,app_last,he]
   rfl
  rcases knd_err (valT n [107,105,110,100]) with h | h
  ·rw [cnd_f (ine_f h)]
   exact key _ (by rw [h,fstE0])
  ·rw [cnd_t (ine_t (by rw [h]; decide)),fail_eq,bnd_some']
   exact key _ (by rw [h])
 rw [cnd_f (sqf c3),if_neg c3]
 obtain ⟨r1,r2⟩:=hr.row c1 c2 c3
 obtain ⟨g1,g2,g3,g4⟩:=last_g r1 (by have:=hr.ev; omega)
 have hz:((0:Int),(((0:Int),(0:Int)),([],((0:UInt8),([],[])))))=evY:=rfl
 rw [hz]
 by_cases c4:n.1=[114,111,119]
 ·rw [cnd_t (sq c4),if_pos c4,grd_t g1,grd_t g2,grd_t g3]
  have hl:(lstG d.2.2.2.2.2.2.1 evY).2.2.2.2.2.length≤1000000:=r2
  rw [grd_t (room_t (by simp only [iadd,len,List.length_cons,List.length_nil]; omega)),grd_t g1,grd_t g2,grd_t g3]
  have:∀ (l:List Row) (x:Row),lapp l [x]=l++[x]:=fun _ _=>rfl
  rw [this,app_last]
  rfl
 rw [cnd_f (sqf c4),if_neg c4]
 obtain ⟨s1,s2⟩:=hr.run c1 c2 c3 c4
 have s1:(lstG d.2.2.2.2.2.2.1 evY).2.2.2.2.2≠[]:=s1
 have hl:(lstG d.2.2.2.2.2.2.1 evY).2.2.2.2.2.length≤1000000:=r2
 obtain ⟨k1,k2,k3,k4⟩:=last_g s1 (by omega)
 have hl2:(lstG (lstG d.2.2.2.2.2.2.1 evY).2.2.2.2.2 []).length≤1000000:=s2
 by_cases c5:n.1=[114,117,110]
 ·rw [cnd_t (sq c5),if_pos c5,vtext_eq hs,bnd_some']
  dsimp only
  rw [vcol_eq hs,bnd_some']
  dsimp only
  rw [vfl_eq hs hu,bnd_some']
  dsimp only
  rw [vfl_eq hs hu,bnd_some']
  dsimp only
  rw [grd_t g1,grd_t g2,grd_t g3,grd_t g1,grd_t g2,grd_t g3,grd_t k1,grd_t k2,grd_t k3,grd_t (room_t (by simp only [iadd,len,List.length_cons,List.length_nil]; omega)),grd_t k3]
  rfl
 rw [cnd_f (sqf c5),if_neg c5]
 have t1:lstG (lstG d.2.2.2.2.2.2.1 evY).2.2.2.2.2 []≠[]:=hr.tx c1 c2 c3 c4 c5
 obtain ⟨m1,m2,m3,m4⟩:=last_g t1 (by omega)
 rw [grd_t g1,grd_t g2,grd_t g3,grd_t g1,grd_t g2,grd_t g3,grd_t k1,grd_t k2,grd_t k3,grd_t k3,grd_t m1,m4,lset_lst,lget_lst t1]
 rfl
end
end Go.Mo
end

section
/-
  Plain facts: the state of Build, and how a node changes it.
-/
set_option linter.all false
namespace Go.Mo
open Go Go.W Go.Lib
set_option maxRecDepth 100000
noncomputable section
def fitS (n:Nd) (parent:Ln) (reg:Bool):Bool :=
 if parent=[] then decide (n.1=[116,116]) else if parent=[116,116] then (if n.1=[112] then true else if n.1=[114,101,103,105,111,110] then reg else false) else
 if parent=[112] then decide (n.1=[114,111,119]) else if parent=[114,111,119] then decide (n.1=[114,117,110]) else if parent=[114,117,110] then decide (n.1=[]) else false
def noE (d:Doc):Bool:=decide (d.2.2.2.2.2.2.1.length=0)
def parO (op:List Ln) (n:Nd):Ln:=if 0<dep n then op.getD ((dep n).toNat - 1) [] else []
def okN (op:List Ln) (d:Doc) (n:Nd):Bool:=fitS n (parO op n) (noE d) && attS n
def noD0:Doc:=([],[],0,false,0,[],[],[])
def finS (d:Doc):Doc×Int×Int:=if docChk d≠0 then (noD0,0,docChk d) else (d,0,0)
def goS:Nat→List Ln→Doc→List Nd→Doc×Int×Int
 | _,_,d,[]=>finS d
 | i,op,d,n::r=>if okN op d n=false then (noD0,(i:Int),4) else if (addS d n).1≠0 then (noD0,(i:Int),(addS d n).1) else goS (i+1) (op.take (dep n).toNat++[n.1]) (addS d n).2 r
def buildS (l:List Nd):Doc×Int×Int:=if chkE l≠0 then (noD0,0,chkE l) else goS 0 [] noD0 l
def evsL (d:Doc):List Ev:=d.2.2.2.2.2.2.1
def Sh (op:List Ln) (d:Doc):Prop :=
 (op=[]∧evsL d=[])∨(op=[[116,116]]∧evsL d=[])∨(op=[[116,116],[114,101,103,105,111,110]]∧evsL d=[])∨(op=[[116,116],[112]]∧evsL d≠[])∨(op=[[116,116],[112],[114,111,119]]∧evsL d≠[]∧rowsL d≠[]) ∨
 (op=[[116,116],[112],[114,111,119],[114,117,110]]∧evsL d≠[]∧rowsL d≠[]∧rowL d≠[]∧(lstG (rowL d) runZ).1=[])∨(op=[[116,116],[112],[114,111,119],[114,117,110],[]]∧evsL d≠[]∧rowsL d≠[]∧rowL d≠[])
structure Inv (l:List Nd) (i:Nat) (op:List Ln) (d:Doc):Prop where
 sh:Sh op d
 zero:i=0→op=[]
 one:1≤i→(op.length:Int)=dep (l.getD (i - 1) ndz)+1
 path:∀ k,k<op.length→∃ j,j<i∧dep (l.getD j ndz)=(k:Int)∧(l.getD j ndz).1=op.getD k []∧∀ m,j<m→m<i→(k:Int)<dep (l.getD m ndz)
 rg:d.2.2.2.2.2.1.length≤i
 ev:(evsL d).length≤i
 rw:(rowsL d).length≤i
 rn:(rowL d).length≤i
 ti:d.1.length≤1090000
 small:∀ x∈evsL d,∀ r∈x.2.2.2.2.2,(∀ u∈r,u.1.length≤1090000∧u.2.2.length≤1090000)∧tot r≤bkL wtN (l.take i)
 cm:d.2.2.2.2.2.2.2=[]
theorem inv0 (l:List Nd):Inv l 0 [] noD0 :=
 ⟨Or.inl ⟨rfl,rfl⟩,fun _=>rfl,fun h=>absurd h (by omega),fun k h=>by simp at h,Nat.le_refl _,Nat.le_refl _,Nat.le_refl _,Nat.le_refl _,Nat.zero_le _,(fun x hx=>by cases hx),rfl⟩
inductive Nx (i:Nat) (op:List Ln) (d:Doc) (n:Nd):Prop
 | tt (h0:i=0) (hk:dep n=0) (ho:op=[]) (hn:n.1=[116,116]) (he:evsL d=[])
 | p (hk:dep n=1) (ho:op.take 1=[[116,116]]) (hn:n.1=[112])
 | rg (hk:dep n=1) (ho:op.take 1=[[116,116]]) (hn:n.1=[114,101,103,105,111,110]) (he:evsL d=[])
 | row (hk:dep n=2) (ho:op.take 2=[[116,116],[112]]) (hn:n.1=[114,111,119]) (he:evsL d≠[])
 | run (hk:dep n=3) (ho:op.take 3=[[116,116],[112],[114,111,119]]) (hn:n.1=[114,117,110]) (he:evsL d≠[]) (hr:rowsL d≠[])
 | tx (hk:dep n=4) (ho:op=[[116,116],[112],[114,111,119],[114,117,110]]) (hn:n.1=[]) (he:evsL d≠[]) (hr:rowsL d≠[]) (hu:rowL d≠[]) (ht:(lstG (rowL d) runZ).1=[])
theorem fit_not {n:Nd} {q:Ln} {b:Bool} (h:fitS n q b=true) (h1:q≠[]) (h2:q≠[116,116]) (h3:q≠[112]) (h4:q≠[114,111,119]) (h5:q≠[114,117,110]):False:=by
 unfold fitS at h
 rw [if_neg h1,if_neg h2,if_neg h3,if_neg h4,if_neg h5] at h
 cases h
theorem deep_lt {l:List Nd} (hd:Deep l) {i:Nat} (hi:i<l.length) {op:List Ln} {d:Doc} (hI:Inv l i op d):(i=0∧dep l[i]=0)∨(1≤i∧1≤dep l[i]∧dep l[i]≤(op.length:Int)∧(dep l[i]=(op.length:Int)→(l.getD (i - 1) ndz).1≠[])):=by
 by_cases h0:i=0
 ·subst h0; exact Or.inl ⟨rfl,hd.root hi⟩
 ·have h1:=hI.one (by omega)
  have h2:=hd.low (i - 1) (by omega)
  have e:l.getD (i - 1) ndz=l[i - 1]:=gD (by omega)
  have e2:l[i - 1+1]'(by omega)=l[i]:=by congr 1; omega
  rw [e2] at h2
  rw [e] at h1 ⊢
  exact Or.inr ⟨by omega,h2.1,by omega,fun k=>h2.2.2 (by omega)⟩
theorem nx_of {l:List Nd} (hc:chkE l=0) {i:Nat} (hi:i<l.length) {op:List Ln} {d:Doc} (hI:Inv l i op d) (hf:fitS l[i] (parO op l[i]) (noE d)=true):Nx i op d l[i]:=by
 have hck:=(chk_at hc).2.2
 have hd:=deep_of hck
 have hnoE:noE d=true→evsL d=[]:=fun h=>List.length_eq_zero_iff.1 (of_decide_eq_true h)
 rcases deep_lt hd hi hI with ⟨h0,hk⟩ | ⟨h1,k1,k2,k3⟩
 ·have ho:=hI.zero h0
  have hp:parO op l[i]=[]:=by unfold parO; rw [if_neg (by omega)]
  rw [hp] at hf
  have he:evsL d=[]:=by
   have:=hI.ev
   exact List.length_eq_zero_iff.1 (by omega)
  exact Nx.tt h0 hk ho (of_decide_eq_true hf) he
 ·have hp:parO op l[i]=op.getD ((dep l[i]).toNat - 1) []:=by unfold parO; rw [if_pos (by omega)]
  rw [hp] at hf
  have at1:op.take 1=[[116,116]]→dep l[i]=1→Nx i op d l[i]:=by
   intro ho hk
   have:op.getD ((dep l[i]).toNat - 1) []=[116,116]:=by
    rw [hk]
    cases op with
    | nil=>cases ho
    | cons a t=>injection ho with e _
   rw [this] at hf
   have hf:(if l[i].1=[112] then true else if l[i].1=[114,101,103,105,111,110] then noE d else false)=true:=hf
   by_cases c1:l[i].1=[112]
   ·exact Nx.p hk ho c1
   rw [if_neg c1] at hf
   by_cases c2:l[i].1=[114,101,103,105,111,110]
   ·rw [if_pos c2] at hf
    exact Nx.rg hk ho c2 (hnoE hf)
   ·rw [if_neg c2] at hf; cases hf
  have at2:op.take 2=[[116,116],[112]]→dep l[i]=2→evsL d≠[]→Nx i op d l[i]:=by
   intro ho hk he
   have:op.getD ((dep l[i]).toNat - 1) []=[112]:=by
    rw [hk]
    match op,ho with
    | a::b::t,ho=>injection ho with _ e; injection e with e _
   rw [this] at hf
   exact Nx.row hk ho (of_decide_eq_true (show decide (l[i].1=[114,111,119])=true from hf)) he
  have at3:op.take 3=[[116,116],[112],[114,111,119]]→dep l[i]=3→evsL d≠[]→rowsL d≠[]→Nx i op d l[i]:=by
   intro ho hk he hr
   have:op.getD ((dep l[i]).toNat - 1) []=[114,111,119]:=by
    rw [hk]
    match op,ho with
    | a::b::c::t,ho=>injection ho with _ e; injection e with _ e; injection e with e _
   rw [this] at hf
   exact Nx.run hk ho (of_decide_eq_true (show decide (l[i].1=[114,117,110])=true from hf)) he hr
  rcases hI.sh with ⟨ho,he⟩ | ⟨ho,he⟩ | ⟨ho,he⟩ | ⟨ho,he⟩ | ⟨ho,he,hr⟩ | ⟨ho,he,hr,hu,ht⟩ | ⟨ho,he,hr,hu⟩
  ·rw [ho] at k2; simp at k2; omega
  ·have hk:dep l[i]=1:=by rw [ho] at k2; simp at k2; omega
   exact at1 (by rw [ho]; rfl) hk
  ·have hl:dep l[i]=1∨dep l[i]=2:=by rw [ho] at k2; simp at k2; omega
   rcases hl with hk | hk
   ·exact at1 (by rw [ho]; rfl) hk
   ·exfalso
    rw [ho,hk] at hf
    exact fit_not (q:=[114,101,103,105,111,110]) hf (by decide) (by decide) (by decide) (by decide) (by decide)
  ·have hl:dep l[i]=1∨dep l[i]=2:=by rw [ho] at k2; simp at k2; omega
   rcases hl with hk | hk
   ·exact at1 (by rw [ho]; rfl) hk
   ·exact at2 (by rw [ho]; rfl) hk he
  ·have hl:dep l[i]=1∨dep l[i]=2∨dep l[i]=3:=by rw [ho] at k2; simp at k2; omega
   rcases hl with hk | hk | hk
   ·exact at1 (by rw [ho]; rfl) hk
   ·exact at2 (by rw [ho]; rfl) hk he
   ·exact at3 (by rw [ho]; rfl) hk he hr
  ·have hl:dep l[i]=1∨dep l[i]=2∨dep l[i]=3∨dep l[i]=4:=by rw [ho] at k2; simp at k2; omega
   rcases hl with hk | hk | hk | hk
   ·exact at1 (by rw [ho]; rfl) hk
   ·exact at2 (by rw [ho]; rfl) hk he
   ·exact at3 (by rw [ho]; rfl) hk he hr
   ·rw [ho,hk] at hf
    exact Nx.tx hk ho (of_decide_eq_true (show decide (l[i].1=[])=true from hf)) he hr hu ht
  ·
   have hlast:(l.getD (i - 1) ndz).1=[]:=by
    obtain ⟨j,j1,j2,j3,j4⟩:=hI.path 4 (by rw [ho]; simp)
    have h1':=hI.one h1
    rw [ho] at h1' j3
    simp only [List.length_cons,List.length_nil] at h1'
    have:j=i - 1:=by
     by_cases e:j=i - 1
     ·exact e
     ·have:=j4 (i - 1) (by omega) (by omega)
      omega
    rw [this] at j3
    exact j3
   have hl:dep l[i]=1∨dep l[i]=2∨dep l[i]=3∨dep l[i]=4∨dep l[i]=5:=by rw [ho] at k2; simp at k2; omega
   rcases hl with hk | hk | hk | hk | hk
   ·exact at1 (by rw [ho]; rfl) hk
   ·exact at2 (by rw [ho]; rfl) hk he
   ·exact at3 (by rw [ho]; rfl) hk he hr
   ·exfalso
    rw [ho,hk] at hf
    have hn:l[i].1=[]:=of_decide_eq_true (show decide (l[i].1=[])=true from hf)
    have htx:=ndE_tx (hck i hi) hn
    have e:l.getD (i - 1) ndz=l[i - 1]:=gD (by omega)
    have h1':=hI.one h1
    rw [ho,e] at h1'
    simp only [List.length_cons,List.length_nil] at h1'
    rw [e] at hlast
    have hpv:prv l i=some l[i - 1]:=by
     have:=prv_succ (l:=l) (i:=i - 1) (by omega)
     have e3:i - 1+1=i:=by omega
     rwa [e3] at this
    rw [hpv] at htx
    unfold txE txP at htx
    rw [if_pos (decide_eq_true ⟨hlast,by omega⟩)] at htx
    cases htx
   ·exfalso
    exact k3 (by rw [ho]; simp only [List.length_cons,List.length_nil]; omega) hlast
theorem uniq_of {p:Option Nd} {n:Nd} (h:ndE p n=0):uniqN n:=by
 unfold uniqN atsL
 by_cases hn:n.1=[]
 ·have:=ndE_tx h hn
  unfold txE at this
  split at this
  ·cases this
  split at this
  ·cases this
  split at this
  ·cases this
  ·rename_i _ _ h0
   have:n.2.2.1=[]:=List.length_eq_zero_iff.1 (by omega)
   rw [this]
   exact List.nodup_nil
 ·have he:=ndE_el h hn
  unfold elE at he
  split at he
  ·cases he
  split at he
  ·cases he
  split at he
  ·cases he
  have key:∀ (r:List At) (seen:List Ln),seen.Nodup→atE seen r=0→(seen++r.map Prod.fst).Nodup:=by
   intro r
   induction r with
   | nil=>intro seen hs _; simpa using hs
   | cons a r ih =>
    intro seen hs h
    unfold atE at h
    split at h
    ·cases h
    split at h
    ·cases h
    split at h
    ·cases h
    rename_i _ hm _
    have:=ih (seen++[a.1]) (by
     rw [List.nodup_append]
     refine ⟨hs,by simp,?_⟩
     intro x hx y hy
     rw [List.mem_singleton] at hy
     subst hy
     intro e
     exact hm (e ▸ hx)) h
    rw [List.append_assoc] at this
    exact this
  exact key _ [] List.nodup_nil he
end
end Go.Mo
end

section
/-
  Plain facts: a node that may come keeps the state of Build whole.
-/
set_option linter.all false
namespace Go.Mo
open Go Go.W Go.Lib
set_option maxRecDepth 100000
noncomputable section
theorem hasR_of {l:List Nd} {i:Nat} (hi:i≤1000000) {op:List Ln} {d:Doc} {n:Nd} (hI:Inv l i op d) (hx:Nx i op d n):HasR d n:=by
 have h1:=hI.rg
 have h2:=hI.ev
 have h3:=hI.rw
 have h4:=hI.rn
 have h2':d.2.2.2.2.2.2.1.length≤i:=h2
 cases hx with
 | tt h0 hk ho hn he=>exact ⟨by omega,by omega,fun k=>absurd hn k,fun k=>absurd hn k,fun k=>absurd hn k⟩
 | p hk ho hn=>exact ⟨by omega,by omega,fun _ _ k=>absurd hn k,fun _ _ k=>absurd hn k,fun _ _ k=>absurd hn k⟩
 | rg hk ho hn he=>exact ⟨by omega,by omega,fun _ k=>absurd hn k,fun _ k=>absurd hn k,fun _ k=>absurd hn k⟩
 | row hk ho hn he=>exact ⟨by omega,by omega,fun _ _ _=>⟨he,by omega⟩,fun _ _ _ k=>absurd hn k,fun _ _ _ k=>absurd hn k⟩
 | run hk ho hn he hr=>exact ⟨by omega,by omega,fun _ _ _=>⟨he,by omega⟩,fun _ _ _ _=>⟨hr,by omega⟩,fun _ _ _ _ k=>absurd hn k⟩
 | tx hk ho hn he hr hu ht=>exact ⟨by omega,by omega,fun _ _ _=>⟨he,by omega⟩,fun _ _ _ _=>⟨hr,by omega⟩,fun _ _ _ _ _=>hu⟩
theorem lst_mem {α:Type} {xs:List α} (h:xs≠[]) (d:α):lstG xs d∈xs:=by
 have h1:xs.length - 1<xs.length:=by cases xs with | nil=>exact absurd rfl h | cons _ _=>simp
 unfold lstG
 rw [List.getD_eq_getElem?_getD,List.getElem?_eq_getElem h1,Option.getD_some]
 exact List.getElem_mem h1
theorem mem_lst {α:Type} {xs:List α} {v x:α} (h:x∈lstS xs v):x∈xs∨x=v:=List.mem_or_eq_of_mem_set h
theorem lst_len {α:Type} (xs:List α) (v:α):(lstS xs v).length=xs.length:=by unfold lstS; rw [List.length_set]
theorem lst_ne {α:Type} {xs:List α} (h:xs≠[]) (v:α):lstS xs v≠[]:=fun k=>h (List.length_eq_zero_iff.1 (by rw [← lst_len xs v,k]; rfl))
theorem app_ne {α:Type} (xs:List α) (v:α):xs++[v]≠[]:=by simp
theorem lstG_app {α:Type} (xs:List α) (v d:α):lstG (xs++[v]) d=v:=by
 unfold lstG
 rw [List.length_append,List.length_cons,List.length_nil,Nat.add_sub_cancel,List.getD_eq_getElem?_getD,List.getElem?_append_right (Nat.le_refl _),Nat.sub_self]
 rfl
theorem rowsL_set {d:Doc} (h:evsL d≠[]) (rows:List Row):rowsL (setR d rows)=rows:=by
 unfold rowsL setR
 dsimp only
 have h:d.2.2.2.2.2.2.1≠[]:=h
 rw [Go.W.lset_last _ _ _ h]
theorem evsL_set {d:Doc} (h:evsL d≠[]) (rows:List Row):evsL (setR d rows)≠[]:=lst_ne h _
theorem tot_set {row:Row} (h:row≠[]) (t:Ln) (s:Sty×Ln):tot (lstS row (t,s))≤tot row+t.length:=by
 obtain ⟨r,u,rfl⟩:∃ r u,row=r++[u]:=by
  rcases List.eq_nil_or_concat row with k | ⟨r,u,k⟩
  ·exact absurd k h
  ·exact ⟨r,u,by rw [k,List.concat_eq_append]⟩
 rw [app_last,tot_app,tot_app]
 simp only [tot]
 omega
theorem bk_take1 {l:List Nd} {i:Nat} (hi:i<l.length):bkL wtN (l.take (i+1))=bkL wtN (l.take i)+wtN l[i]:=by
 rw [List.take_succ_eq_append_getElem hi]
 generalize l.take i=a
 induction a with
 | nil=>simp [bkL]
 | cons x a ih=>simp only [List.cons_append,bkL,ih]; omega
def smR (W:Nat) (r:Row):Prop:=(∀ u∈r,u.1.length≤1090000∧u.2.2.length≤1090000)∧tot r≤W
theorem small_set {W:Nat} {d:Doc} (he:evsL d≠[]) {rows:List Row} (h1:∀ x∈evsL d,∀ r∈x.2.2.2.2.2,smR W r) (h2:∀ r∈rows,smR W r):∀ x∈evsL (setR d rows),∀ r∈x.2.2.2.2.2,smR W r:=by
 intro x hx r hr
 have hx:x∈lstS (evsL d) _:=hx
 rcases mem_lst hx with hx | hx
 ·exact h1 x hx r hr
 ·subst hx; exact h2 r hr
theorem old_rows {W:Nat} {d:Doc} (he:evsL d≠[]) (h1:∀ x∈evsL d,∀ r∈x.2.2.2.2.2,smR W r):∀ r∈rowsL d,smR W r:=fun r hr=>h1 _ (lst_mem he evY) r hr
theorem inv_step {l:List Nd} (hs:∀ n∈l,smN n) {i:Nat} (hi:i<l.length) {op:List Ln} {d:Doc} (hI:Inv l i op d) (hx:Nx i op d l[i]):Inv l (i+1) (op.take (dep l[i]).toNat++[l[i].1]) (addS d l[i]).2:=by
 have hn:=hs _ (List.getElem_mem hi)
 have hW:=bk_take1 hi
 have hwt:l[i].2.1.length+1≤wtN l[i]:=by unfold wtN; omega
 have gi:l.getD i ndz=l[i]:=gD hi
 have h1:=hI.rg
 have h2:=hI.ev
 have h3:=hI.rw
 have h4:=hI.rn
 have hsm:∀ x∈evsL d,∀ r∈x.2.2.2.2.2,smR (bkL wtN (l.take (i+1))) r:=fun x hx r hr=>⟨(hI.small x hx r hr).1,by have:=(hI.small x hx r hr).2; omega⟩
 have path:∀ k:Nat,dep l[i]=(k:Int)→k≤op.length→(∀ q,q<(op.take k++[l[i].1]).length→∃ j,j<i+1∧dep (l.getD j ndz)=(q:Int)∧(l.getD j ndz).1=(op.take k++[l[i].1]).getD q []∧∀ m,j<m→m<i+1→(q:Int)<dep (l.getD m ndz))∧((op.take k++[l[i].1]).length:Int)=dep (l.getD i ndz)+1:=by
  intro k hk hko
  have hlt:(op.take k).length=k:=by rw [List.length_take]; omega
  refine ⟨fun q hq=>?_,by rw [gi,hk,List.length_append,hlt]; simp⟩
  rw [List.length_append,hlt] at hq
  simp only [List.length_cons,List.length_nil] at hq
  by_cases e:q=k
  ·subst e
   refine ⟨i,by omega,by rw [gi,hk],?_,fun m h1 h2=>by omega⟩
   rw [gi,List.getD_eq_getElem?_getD,List.getElem?_append_right (by omega),hlt,Nat.sub_self]
   rfl
  ·obtain ⟨j,j1,j2,j3,j4⟩:=hI.path q (by omega)
   refine ⟨j,by omega,j2,?_,fun m m1 m2=>?_⟩
   ·rw [j3,List.getD_eq_getElem?_getD,List.getD_eq_getElem?_getD,List.getElem?_append_left (by omega),List.getElem?_take_of_lt (by omega)]
   ·by_cases e2:m=i
    ·subst e2; rw [gi,hk]; omega
    ·exact j4 m m1 (by omega)
 have tl:∀ k:Nat,∀ z:List Ln,z.length=k→op.take k=z→k≤op.length:=by
  intro k z hz ho
  have:=congrArg List.length ho
  rw [List.length_take,hz] at this
  omega
 cases hx with
 | tt h0 hk ho hn1 he =>
  have e:(dep l[i]).toNat=0:=by rw [hk]; rfl
  rw [e]
  obtain ⟨p1,p2⟩:=path 0 (by rw [hk]; rfl) (Nat.zero_le _)
  have ea:(addS d l[i]).2=(addTt d l[i]).2:=by unfold addS; rw [if_pos hn1]
  have ee:evsL (addTt d l[i]).2=[]:=he
  have er:rowsL (addTt d l[i]).2=rowsL d:=rfl
  rw [ea]
  refine ⟨Or.inr (Or.inl ⟨by rw [hn1]; simp,ee⟩),fun k=>by omega,fun _=>by rw [Nat.add_sub_cancel]; exact p2,p1,?_,?_,?_,?_,?_,?_,hI.cm⟩
  ·exact Nat.le_succ_of_le h1
  ·rw [ee]; exact Nat.zero_le _
  ·rw [er]; omega
  ·exact Nat.le_succ_of_le h4
  ·exact valT_len hn _
  ·intro x hx; rw [ee] at hx; cases hx
 | p hk ho hn1 =>
  have e:(dep l[i]).toNat=1:=by rw [hk]; rfl
  rw [e]
  obtain ⟨p1,p2⟩:=path 1 (by rw [hk]; rfl) (tl 1 _ rfl ho)
  have ea:(addS d l[i]).2=(addEv d l[i]).2:=by unfold addS; rw [if_neg (by rw [hn1]; decide),if_neg (by rw [hn1]; decide),if_pos hn1]
  have ee:evsL (addEv d l[i]).2=evsL d++[evT l[i]]:=rfl
  have er:rowsL (addEv d l[i]).2=[]:=by
   show (lstG (evsL d++[evT l[i]]) evY).2.2.2.2.2=[]
   rw [lstG_app]; rfl
  rw [ea]
  refine ⟨Or.inr (Or.inr (Or.inr (Or.inl ⟨by rw [ho,hn1]; rfl,by rw [ee]; exact app_ne _ _⟩))),fun k=>by omega,fun _=>by rw [Nat.add_sub_cancel]; exact p2,p1,?_,?_,?_,?_,?_,?_,hI.cm⟩
  ·exact Nat.le_succ_of_le h1
  ·rw [ee,List.length_append]; simp only [List.length_cons,List.length_nil]; omega
  ·rw [er]; exact Nat.zero_le _
  ·unfold rowL; rw [er]; exact Nat.zero_le _
  ·exact hI.ti
  ·intro x hx r hr
   rw [ee,List.mem_append,List.mem_singleton] at hx
   rcases hx with hx | rfl
   ·exact hsm x hx r hr
   ·cases hr
 | rg hk ho hn1 he =>
  have e:(dep l[i]).toNat=1:=by rw [hk]; rfl
  rw [e]
  obtain ⟨p1,p2⟩:=path 1 (by rw [hk]; rfl) (tl 1 _ rfl ho)
  have ea:(addS d l[i]).2=(addRg d l[i]).2:=by unfold addS; rw [if_neg (by rw [hn1]; decide),if_pos hn1]
  have ee:evsL (addRg d l[i]).2=[]:=he
  rw [ea]
  refine ⟨Or.inr (Or.inr (Or.inl ⟨by rw [ho,hn1]; rfl,ee⟩)),fun k=>by omega,fun _=>by rw [Nat.add_sub_cancel]; exact p2,p1,?_,?_,?_,?_,?_,?_,hI.cm⟩
  ·show (d.2.2.2.2.2.1++[regT l[i]]).length≤i+1
   rw [List.length_append]; simp only [List.length_cons,List.length_nil]; omega
  ·rw [ee]; exact Nat.zero_le _
  ·exact Nat.le_succ_of_le h3
  ·exact Nat.le_succ_of_le h4
  ·exact hI.ti
  ·intro x hx; rw [ee] at hx; cases hx
 | row hk ho hn1 he =>
  have e:(dep l[i]).toNat=2:=by rw [hk]; rfl
  rw [e]
  obtain ⟨p1,p2⟩:=path 2 (by rw [hk]; rfl) (tl 2 _ rfl ho)
  have ea:(addS d l[i]).2=setR d (rowsL d++[[]]):=by unfold addS; rw [if_neg (by rw [hn1]; decide),if_neg (by rw [hn1]; decide),if_neg (by rw [hn1]; decide),if_pos hn1]
  have er:=rowsL_set he (rowsL d++[[]])
  rw [ea]
  refine ⟨Or.inr (Or.inr (Or.inr (Or.inr (Or.inl ⟨by rw [ho,hn1]; rfl,evsL_set he _,by rw [er]; exact app_ne _ _⟩)))),fun k=>by omega,fun _=>by rw [Nat.add_sub_cancel]; exact p2,p1,?_,?_,?_,?_,?_,?_,hI.cm⟩
  ·exact Nat.le_succ_of_le h1
  ·show (lstS (evsL d) _).length≤_; rw [lst_len]; omega
  ·rw [er,List.length_append]; simp only [List.length_cons,List.length_nil]; omega
  ·unfold rowL; rw [er,lstG_app]; exact Nat.zero_le _
  ·exact hI.ti
  ·refine small_set he hsm fun r hr=>?_
   rw [List.mem_append,List.mem_singleton] at hr
   rcases hr with hr | rfl
   ·exact old_rows he hsm r hr
   ·exact ⟨(fun u hu=>by cases hu),Nat.zero_le _⟩
 | run hk ho hn1 he hr =>
  have e:(dep l[i]).toNat=3:=by rw [hk]; rfl
  rw [e]
  obtain ⟨p1,p2⟩:=path 3 (by rw [hk]; rfl) (tl 3 _ rfl ho)
  have ea:(addS d l[i]).2=setR d (lstS (rowsL d) (rowL d++[runT l[i]])):=by unfold addS; rw [if_neg (by rw [hn1]; decide),if_neg (by rw [hn1]; decide),if_neg (by rw [hn1]; decide),if_neg (by rw [hn1]; decide),if_pos hn1]; rfl
  have er:=rowsL_set he (lstS (rowsL d) (rowL d++[runT l[i]]))
  have el:rowL (setR d (lstS (rowsL d) (rowL d++[runT l[i]])))=rowL d++[runT l[i]]:=by
   show lstG (rowsL _) []=_
   rw [er,Go.W.lset_last _ _ _ hr]
  rw [ea]
  refine ⟨Or.inr (Or.inr (Or.inr (Or.inr (Or.inr (Or.inl ⟨by rw [ho,hn1]; rfl,evsL_set he _,by rw [er]; exact lst_ne hr _,by rw [el]; exact app_ne _ _,by rw [el,lstG_app]; rfl⟩))))),fun k=>by omega,fun _=>by rw [Nat.add_sub_cancel]; exact p2,p1,?_,?_,?_,?_,?_,?_,hI.cm⟩
  ·exact Nat.le_succ_of_le h1
  ·show (lstS (evsL d) _).length≤_; rw [lst_len]; omega
  ·rw [er,lst_len]; omega
  ·rw [el,List.length_append]; simp only [List.length_cons,List.length_nil]; omega
  ·exact hI.ti
  ·refine small_set he hsm fun r hr2=>?_
   rcases mem_lst hr2 with hr2 | hr2
   ·exact old_rows he hsm r hr2
   ·subst hr2
    have ho':smR (bkL wtN (l.take (i+1))) (rowL d):=old_rows he hsm _ (lst_mem hr [])
    refine ⟨fun u hu=>?_,?_⟩
    ·rw [List.mem_append,List.mem_singleton] at hu
     rcases hu with hu | rfl
     ·exact ho'.1 u hu
     ·exact ⟨Nat.zero_le _,valT_len hn _⟩
    ·rw [tot_app]
     have:tot [runT l[i]]=0:=rfl
     rw [this]
     exact ho'.2
 | tx hk ho hn1 he hr hu ht =>
  have e:(dep l[i]).toNat=4:=by rw [hk]; rfl
  rw [e]
  obtain ⟨p1,p2⟩:=path 4 (by rw [hk]; rfl) (by rw [ho]; simp)
  have ea:(addS d l[i]).2=setR d (lstS (rowsL d) (lstS (rowL d) (l[i].2.1,(lstG (rowL d) runZ).2))):=by unfold addS; rw [if_neg (by rw [hn1]; decide),if_neg (by rw [hn1]; decide),if_neg (by rw [hn1]; decide),if_neg (by rw [hn1]; decide),if_neg (by rw [hn1]; decide)]; rfl
  have er:=rowsL_set he (lstS (rowsL d) (lstS (rowL d) (l[i].2.1,(lstG (rowL d) runZ).2)))
  have el:rowL (setR d (lstS (rowsL d) (lstS (rowL d) (l[i].2.1,(lstG (rowL d) runZ).2))))=lstS (rowL d) (l[i].2.1,(lstG (rowL d) runZ).2):=by
   show lstG (rowsL _) []=_
   rw [er,Go.W.lset_last _ _ _ hr]
  rw [ea]
  refine ⟨Or.inr (Or.inr (Or.inr (Or.inr (Or.inr (Or.inr ⟨by rw [ho,hn1]; rfl,evsL_set he _,by rw [er]; exact lst_ne hr _,by rw [el]; exact lst_ne hu _⟩))))),fun k=>by omega,fun _=>by rw [Nat.add_sub_cancel]; exact p2,p1,?_,?_,?_,?_,?_,?_,hI.cm⟩
  ·exact Nat.le_succ_of_le h1
  ·show (lstS (evsL d) _).length≤_; rw [lst_len]; omega
  ·rw [er,lst_len]; omega
  ·rw [el,lst_len]; omega
  ·exact hI.ti
  ·refine small_set he hsm fun r hr2=>?_
   rcases mem_lst hr2 with hr2 | hr2
   ·exact old_rows he hsm r hr2
   ·subst hr2
    have hmem:rowL d∈rowsL d:=lst_mem hr []
    have ho':=hI.small _ (lst_mem he evY) _ hmem
    refine ⟨fun u hu2=>?_,?_⟩
    ·rcases mem_lst hu2 with hu2 | rfl
     ·exact ho'.1 u hu2
     ·exact ⟨hn.tx,(ho'.1 _ (lst_mem hu runZ)).2⟩
    ·have:=tot_set hu l[i].2.1 (lstG (rowL d) runZ).2
     have h5:=ho'.2
     omega
theorem inv_small {l:List Nd} {i:Nat} {op:List Ln} {d:Doc} (hI:Inv l i op d) (hi:i≤4000000) (hb:bkL wtN (l.take i)≤4000000):smallD d:=by
 have h1:=hI.rg
 have h2:=hI.ti
 refine ⟨by omega,by omega,fun x hx r hr=>?_,fun c hc=>by rw [hI.cm] at hc; cases hc⟩
 have h:=hI.small x hx r hr
 exact ⟨fun u hu=>by have:=h.1 u hu; omega,by have:=h.2; omega⟩
end
end Go.Mo
end

section
/-
  Plain facts: Build of the program.
-/
set_option linter.all false
namespace Go.Mo
open Go Go.W Go.Lib
set_option maxRecDepth 100000
noncomputable section
theorem vfits_eq (N:Nat) (n:Nd) (q:Ln) (b:Bool):q67 N (n,q,b)=some (fitS n q b):=by
 unfold q67 fitS
 dsimp only
 by_cases h1:q=[]
 ·rw [cnd_t (sq h1),if_pos h1]
  by_cases h:n.1=[116,116]
  ·rw [sq h,decide_eq_true h]
  ·rw [sqf h,decide_eq_false h]
 rw [cnd_f (sqf h1),if_neg h1]
 by_cases h2:q=[116,116]
 ·rw [cnd_t (sq h2),if_pos h2]
  by_cases c1:n.1=[112]
  ·rw [cnd_t (sq c1),if_pos c1]
  ·rw [cnd_f (sqf c1),if_neg c1]
   by_cases c2:n.1=[114,101,103,105,111,110]
   ·rw [cnd_t (sq c2),if_pos c2]
   ·rw [cnd_f (sqf c2),if_neg c2]
 rw [cnd_f (sqf h2),if_neg h2]
 by_cases h3:q=[112]
 ·rw [cnd_t (sq h3),if_pos h3]
  by_cases h:n.1=[114,111,119]
  ·rw [sq h,decide_eq_true h]
  ·rw [sqf h,decide_eq_false h]
 rw [cnd_f (sqf h3),if_neg h3]
 by_cases h4:q=[114,111,119]
 ·rw [cnd_t (sq h4),if_pos h4]
  by_cases h:n.1=[114,117,110]
  ·rw [sq h,decide_eq_true h]
  ·rw [sqf h,decide_eq_false h]
 rw [cnd_f (sqf h4),if_neg h4]
 by_cases h5:q=[114,117,110]
 ·rw [cnd_t (sq h5),if_pos h5]
  by_cases h:n.1=[]
  ·rw [sq h,decide_eq_true h]
  ·rw [sqf h,decide_eq_false h]
 rw [cnd_f (sqf h5),if_neg h5]
theorem ieq_dec (a b:Int):ieq a b=decide (a=b):=by
 by_cases h:a=b
 ·rw [ieq_t h,decide_eq_true h]
 ·rw [ieq_f h,decide_eq_false h]
theorem noE_eq (d:Doc):ieq (len d.2.2.2.2.2.2.1) 0=noE d:=by
 rw [ieq_dec]
 unfold noE
 rw [Bool.eq_iff_iff,decide_eq_true_eq,decide_eq_true_eq]
 simp only [len]
 omega
theorem build_prog {l:List Nd} (hs:∀ n∈l,smN n) (hb:bkL wtN l≤4000000):q90 fuelH l=some (buildS l):=by
 have hfu:=fuelH_eq
 have hl:l.length≤4000000:=Nat.le_trans (bk_len (f:=wtN) (fun n=>by unfold wtN; omega) l) hb
 unfold q90 buildS
 rw [bnd_s (check_eq hl hs)]
 by_cases hc:chkE l=0
 ·have hck:=(chk_at hc).2.2
  have h8:=(chk_at hc).2.1
  have hd:=deep_of hck
  rw [cnd_f (ine_f hc),if_neg (by simpa using hc)]
  simp only [lst_id,pr_eta]
  rw [jn_e]
  have h:=drop_loop (R:=Doc×Int×Int) (s:=l) (F:=fun v4 (v5:(List Ln)×Int×Doc) =>
   cnd (ilt v5.2.1 (len l))
    (grd (inb v5.2.1 (len l))
     (grd (in2 (lget l (toN v5.2.1) ([],([],([],(0:Int))))).2.2.2 (ofN (nlen v5.1)))
      (jn (fun (v6:Ln) =>
       bnd (q67 fuelH (lget l (toN v5.2.1) ([],([],([],(0:Int)))),v6,ieq (len v5.2.2.2.2.2.2.2.2.1) (0:Int))) fun v7 =>
       cnd (bnot v7)
        (some ((([]:Ln),([]:Ln),(0:UInt8),false,(0:Int),([]:List Reg),([]:List Ev),([]:List Cmt)),v5.2.1,(4:Int)))
        (bnd (q70 fuelH (lget l (toN v5.2.1) ([],([],([],(0:Int)))))) fun v8 =>
        cnd (bnot v8)
         (some ((([]:Ln),([]:Ln),(0:UInt8),false,(0:Int),([]:List Reg),([]:List Ev),([]:List Cmt)),v5.2.1,(4:Int)))
         (bnd (ttml_add fuelH (v5.2.2,lget l (toN v5.2.1) ([],([],([],(0:Int)))))) fun v9 =>
         cnd (ine v9.1 (0:Int))
          (some ((([]:Ln),([]:Ln),(0:UInt8),false,(0:Int),([]:List Reg),([]:List Ev),([]:List Cmt)),v5.2.1,v9.1))
          (grd (room (iadd (ofN (toN (lget l (toN v5.2.1) ([],([],([],(0:Int))))).2.2.2)) (len ([(lget l (toN v5.2.1) ([],([],([],(0:Int))))).1]:List Ln))) 16)
           (v4 (lapp (ltake (toN (lget l (toN v5.2.1) ([],([],([],(0:Int))))).2.2.2) v5.1) ([(lget l (toN v5.2.1) ([],([],([],(0:Int))))).1]:List Ln),w64 (iadd v5.2.1 (1:Int)),v9.2))))))
      fun v10 =>
      cnd (ilt (0:Int) (lget l (toN v5.2.1) ([],([],([],(0:Int))))).2.2.2)
       (grd (inb (w64 (isub (lget l (toN v5.2.1) ([],([],([],(0:Int))))).2.2.2 (1:Int))) (ofN (toN (lget l (toN v5.2.1) ([],([],([],(0:Int))))).2.2.2)))
        (v10 (lget v5.1 (nadd 0 (toN (w64 (isub (lget l (toN v5.2.1) ([],([],([],(0:Int))))).2.2.2 (1:Int))))) [])))
       (v10 ([]:Ln)))))
    (bnd (q48 fuelH v5.2.2) fun v2 =>
     cnd (ine v2 (0:Int))
      (some ((([]:Ln),([]:Ln),(0:UInt8),false,(0:Int),([]:List Reg),([]:List Ev),([]:List Cmt)),(0:Int),v2))
      (some (v5.2.2,(0:Int),(0:Int)))))
   (fun (a:List Ln×Doc) (j:Nat)=>(a.1,(j:Int),a.2)) (fun a r=>some (goS (l.length - r.length) a.1 a.2 r)) (fun j a=>Inv l j a.1 a.2) ?_ fuelH 0 ([],noD0) (by omega) (Nat.zero_le _) (inv0 l)
  ·refine Eq.trans h ?_
   rw [List.drop_zero,Nat.sub_self]
  ·intro self a j hj hI hself
   by_cases hjl:j<l.length
   ·have hin:inb (j:Int) (len l)=true:=inb_t (by simp only [len]; omega)
    have hw:w64 (iadd (j:Int) 1)=((j+1:Nat):Int):=w64_succ hjl (by omega)
    have hn:=hs _ (List.getElem_mem hjl)
    have hu:=uniq_of (hck j hjl)
    have hdep:=deep_lt hd hjl hI
    have hdle:0≤dep l[j]∧dep l[j]≤(a.1.length:Int)∧dep l[j]≤15:=by
     have:=hd.high j hjl
     rcases hdep with ⟨_,k⟩ | ⟨_,k1,k2,_⟩
     ·omega
     ·omega
    dsimp only
    rw [cnd_t (ilt_t (by simp only [len]; omega)),grd_t hin,lgetn hjl,hw]
    have hdd:l[j].2.2.2=dep l[j]:=rfl
    rw [hdd]
    have hon:ofN (nlen a.1)=(a.1.length:Int):=rfl
    rw [hon,grd_t (in2_t (by omega)),List.drop_eq_getElem_cons hjl]
    have e1:l.length - (l[j]::l.drop (j+1)).length=j:=by rw [List.length_cons,List.length_drop]; omega
    rw [e1]
    unfold goS
    have hofN:ofN (toN (dep l[j]))=dep l[j]:=by simp [ofN,toN]; omega
    have par:∀ k:Ln→Option (Doc×Int×Int),jn k (fun k=>cnd (ilt 0 (dep l[j])) (grd (inb (w64 (isub (dep l[j]) 1)) (ofN (toN (dep l[j])))) (k (lget a.1 (nadd 0 (toN (w64 (isub (dep l[j]) 1)))) []))) (k []))=k (parO a.1 l[j]):=by
     intro k
     rw [jn_e]
     unfold parO
     by_cases h0:0<dep l[j]
     ·have hw2:w64 (isub (dep l[j]) 1)=dep l[j] - 1:=by simp only [isub]; rw [w64_id (by omega)]
      rw [cnd_t (ilt_t h0),if_pos h0,hw2,hofN,grd_t (inb_t (by omega))]
      congr 1
      have e2:nadd 0 (toN (dep l[j] - 1))=(dep l[j]).toNat - 1:=by
       have:toN (dep l[j] - 1)=(dep l[j]).toNat - 1:=by simp only [toN]; omega
       rw [this]
       show 0+_=_
       omega
      rw [e2]
      rfl
     ·rw [cnd_f (ilt_f h0),if_neg h0]
    rw [par]
    rw [noE_eq,vfits_eq,bnd_some']
    unfold okN
    cases hf:fitS l[j] (parO a.1 l[j]) (noE a.2) with
    | false=>rw [cnd_t (by rfl),Bool.false_and,if_pos rfl]; rfl
    | true =>
     have hx:=nx_of hc hjl hI hf
     rw [cnd_f (by rfl),attributed_eq hn hu,bnd_some',Bool.true_and]
     cases ha:attS l[j] with
     | false=>rw [cnd_t (by rfl),if_pos rfl]; rfl
     | true =>
      rw [cnd_f (by rfl),if_neg (by simp),add_eq hn hu ha (hasR_of (by omega) hI hx),bnd_some']
      by_cases he:(addS a.2 l[j]).1=0
      ·have htk:toN (dep l[j])=(dep l[j]).toNat:=rfl
       rw [cnd_f (ine_f he),if_neg (by simpa using he),hofN,grd_t (room_t (by simp only [iadd,len,List.length_cons,List.length_nil]; omega)),htk]
       refine (hself (a.1.take (dep l[j]).toNat++[l[j].1],(addS a.2 l[j]).2) (j+1) (by omega) (by omega) (inv_step hs hjl hI hx)).trans ?_
       have e3:l.length - (l.drop (j+1)).length=j+1:=by rw [List.length_drop]; omega
       rw [e3]
      ·rw [cnd_t (ine_t he),if_pos (by simpa using he)]
       rfl
   ·obtain rfl:j=l.length:=by omega
    have hsm:=inv_small hI hl (by rw [List.take_length]; exact hb)
    dsimp only
    rw [cnd_f (ilt_f (by simp only [len]; omega)),List.drop_length,bnd_s (document_check hsm)]
    unfold goS finS
    by_cases h:docChk a.2=0
    ·rw [cnd_f (ine_f h),if_neg (by simpa using h)]
    ·rw [cnd_t (ine_t h),if_pos h]
     rfl
 ·rw [cnd_t (ine_t hc),if_pos hc]
  rfl
end
end Go.Mo
end

section
/-
  Plain facts: where a node may stand, by the reference.
-/
set_option linter.all false
namespace Go.Mo
open Go Go.W Go.Lib
set_option maxRecDepth 100000
noncomputable section
theorem back_loop {R:Type} {l:List Nd} (hl:l.length≤4000000) {K:Int} (C:Int→Option R) {j:Nat} (hK:dep (l.getD j ndz)=K):∀ (n m fuel:Nat),j+n=m→m<l.length→n<fuel→(∀ q,j<q→q≤m→K<dep (l.getD q ndz)) →
  fixN (fun v3 (v4:Int) =>
    grd (inb v4 (len l)) <|
    cnd (ine (lget l (toN v4) ([],([],([],(0:Int))))).2.2.2 K)
     (v3 (w64 (isub v4 (1:Int))))
     (C v4)) fuel (m:Int)=C (j:Int)
 | 0,m,fuel+1,h1,h2,_,_=>by
  obtain rfl:j=m:=by omega
  rw [fixN_s,grd_t (inb_t (by simp only [len]; omega)),lgetn h2]
  rw [gD h2] at hK
  have:l[j].2.2.2=K:=hK
  rw [this,cnd_f (ine_f rfl)]
 | n+1,m,fuel+1,h1,h2,h3,h4=>by
  have h5:=h4 m (by omega) (Nat.le_refl _)
  rw [gD h2] at h5
  have h5:K<l[m].2.2.2:=h5
  have hw:w64 (isub (m:Int) 1)=((m - 1:Nat):Int):=by simp only [isub]; rw [w64_id (by omega)]; omega
  rw [fixN_s,grd_t (inb_t (by simp only [len]; omega)),lgetn h2,cnd_t (ine_t (by omega)),hw]
  exact back_loop hl C hK n (m - 1) fuel (by omega) (by omega) (by omega) fun q q1 q2=>h4 q q1 (by omega)
theorem last_op {l:List Nd} {i:Nat} {op:List Ln} {d:Doc} (hI:Inv l i op d) (h1:1≤i) (ho:1≤op.length):(l.getD (i - 1) ndz).1=op.getD (op.length - 1) []:=by
 obtain ⟨j,j1,j2,j3,j4⟩:=hI.path (op.length - 1) (by omega)
 have h1':=hI.one h1
 have:j=i - 1:=by
  by_cases e:j=i - 1
  ·exact e
  ·have:=j4 (i - 1) (by omega) (by omega)
   omega
 rw [this] at j3
 exact j3
def namK:List Ln:=[[116,116],[112],[114,111,119],[114,117,110],[]]
theorem dep_le4 {l:List Nd} (hd:Deep l) {i:Nat} (hi:i<l.length) {op:List Ln} {d:Doc} (hI:Inv l i op d):dep l[i]≤4:=by
 rcases deep_lt hd hi hI with ⟨h0,hk⟩ | ⟨h1,k1,k2,k3⟩
 ·omega
 ·rcases hI.sh with ⟨ho,_⟩ | ⟨ho,_⟩ | ⟨ho,_⟩ | ⟨ho,_⟩ | ⟨ho,_⟩ | ⟨ho,_⟩ | ⟨ho,_⟩
  all_goals first
   |(rw [ho] at k2; simp only [List.length_cons,List.length_nil] at k2; omega)
   |skip
  have hlast:=last_op hI h1 (by rw [ho]; simp)
  rw [ho] at hlast k2 k3
  simp only [List.length_cons,List.length_nil] at k2 k3
  by_cases e:dep l[i]=5
  ·exact absurd hlast (k3 (by omega))
  ·omega
theorem allowed_eq {l:List Nd} (hc:chkE l=0) {i:Nat} (hi:i<l.length) {op:List Ln} {d:Doc} (hI:Inv l i op d):q99 fuelH (l,(i:Int))=some (fitS l[i] (parO op l[i]) (noE d)):=by
 have hfu:=fuelH_eq
 have h8:=(chk_at hc).2.1
 have hd:=deep_of (chk_at hc).2.2
 have h4:=dep_le4 hd hi hI
 have hdd:l[i].2.2.2=dep l[i]:=rfl
 have nz:noE d=true↔evsL d=[]:=⟨fun h=>List.length_eq_zero_iff.1 (of_decide_eq_true h),fun h=>decide_eq_true (List.length_eq_zero_iff.2 h)⟩
 have nzf:evsL d≠[]→noE d=false:=fun h=>by
  cases e:noE d with
  | false=>rfl
  | true=>exact absurd (nz.1 e) h
 unfold q99
 dsimp only
 rw [grd_t (inb_t (by simp only [len]; omega)),lgetn hi,hdd,jn_e,cnd_f (ilt_f (by omega))]
 rcases deep_lt hd hi hI with ⟨h0,hk⟩ | ⟨h1,k1,k2,k3⟩
 ·subst h0
  have hp:parO op l[0]=[]:=by unfold parO; rw [if_neg (by omega)]
  rw [hp,hk,grd_t (by rfl)]
  have e0:lget ([[116,116],[112],[114,111,119],[114,117,110],[]]:List Ln) (toN (0:Int)) []=[116,116]:=rfl
  rw [e0]
  by_cases h:l[0].1=[116,116]
  ·rw [cnd_f (by rw [h]; rfl),cnd_t (by rfl),cnd_t (by rw [h]; rfl)]
   show _=some (decide (l[0].1=[116,116]))
   rw [decide_eq_true h]
  ·rw [cnd_t (by simpa [sne] using fun k=>h k.symm),cnd_f (by rfl),cnd_t (by rfl)]
   show _=some (decide (l[0].1=[116,116]))
   rw [decide_eq_false h]
 ·have hp:parO op l[i]=op.getD ((dep l[i]).toNat - 1) []:=by unfold parO; rw [if_pos (by omega)]
  rw [hp]
  have hop:1≤op.length:=by omega
  have hone:=hI.one h1
  by_cases hk1:dep l[i]=1
  ·have hq:op.getD ((dep l[i]).toNat - 1) []=[116,116]:=by
    rw [hk1]
    rcases hI.sh with ⟨ho,_⟩ | ⟨ho,_⟩ | ⟨ho,_⟩ | ⟨ho,_⟩ | ⟨ho,_⟩ | ⟨ho,_⟩ | ⟨ho,_⟩<;>rw [ho] at hop ⊢<;>first | rfl | (simp at hop)
   rw [hq,hk1,grd_t (by rfl)]
   have e0:lget ([[116,116],[112],[114,111,119],[114,117,110],[]]:List Ln) (toN (1:Int)) []=[112]:=rfl
   rw [e0]
   show _=some (if l[i].1=[112] then true else if l[i].1=[114,101,103,105,111,110] then noE d else false)
   by_cases c1:l[i].1=[112]
   ·rw [if_pos c1,cnd_f (by rw [c1]; rfl),cnd_t (by rfl),cnd_t (by rw [c1]; rfl)]
   ·rw [if_neg c1,cnd_t (by simpa [sne] using fun k=>c1 k.symm),cnd_t (by rfl)]
    by_cases c2:l[i].1=[114,101,103,105,111,110]
    ·rw [if_pos c2,cnd_f (by rw [c2]; rfl),cnd_t (by rfl),cnd_f (by rw [c2]; rfl)]
     have hlast:=last_op hI h1 hop
     have gl:lget l (toN (w64 (isub (i:Int) 1))) ([],([],([],(0:Int))))=l.getD (i - 1) ndz:=by
      have hw:w64 (isub (i:Int) 1)=((i - 1:Nat):Int):=by simp only [isub]; rw [w64_id (by omega)]; omega
      rw [hw,lgetn (by omega),gD (by omega)]
     have hin:inb (w64 (isub (i:Int) 1)) (len l)=true:=by
      have hw:w64 (isub (i:Int) 1)=((i - 1:Nat):Int):=by simp only [isub]; rw [w64_id (by omega)]; omega
      rw [hw]
      exact inb_t (by simp only [len]; omega)
     have not1:op.length≠1→¬ (i:Int)=1:=by
      intro hne h
      have:i=1:=by omega
      subst this
      have e:l.getD (1 - 1) ndz=l[0]:=gD (by omega)
      rw [e,hd.root (by omega)] at hone
      omega
     rcases hI.sh with ⟨ho,he⟩ | ⟨ho,he⟩ | ⟨ho,he⟩ | ⟨ho,he⟩ | ⟨ho,he,_⟩ | ⟨ho,he,_⟩ | ⟨ho,he,_⟩
     ·rw [ho] at hop; simp at hop
     ·
      have:i=1:=by
       by_cases e:i=1
       ·exact e
       ·have h2:=hd.low (i - 2) (by omega)
        have e2:l.getD (i - 1) ndz=l[i - 2+1]'(by omega):=by rw [gD (by omega)]; congr 1; omega
        rw [e2,ho] at hone
        simp only [List.length_cons,List.length_nil] at hone
        omega
      rw [cnd_t (ieq_t (by omega)),nz.2 he]
     ·rw [cnd_f (ieq_f (not1 (by rw [ho]; simp))),grd_t hin,gl,hlast,ho,nz.2 he]
      rfl
     ·rw [cnd_f (ieq_f (not1 (by rw [ho]; simp))),grd_t hin,gl,hlast,ho,nzf he]
      rfl
     ·rw [cnd_f (ieq_f (not1 (by rw [ho]; simp))),grd_t hin,gl,hlast,ho,nzf he]
      rfl
     ·rw [cnd_f (ieq_f (not1 (by rw [ho]; simp))),grd_t hin,gl,hlast,ho,nzf he]
      rfl
     ·rw [cnd_f (ieq_f (not1 (by rw [ho]; simp))),grd_t hin,gl,hlast,ho,nzf he]
      rfl
    ·rw [if_neg c2,cnd_t (by rw [sqf c2]; rfl)]
  ·
   obtain ⟨k,hk,hk2,hk4⟩:∃ k:Nat,dep l[i]=(k:Int)∧2≤k∧k≤4:=⟨(dep l[i]).toNat,by omega,by omega,by omega⟩
   have htn:(dep l[i]).toNat=k:=by omega
   have hin:inb (dep l[i]) (len ([[116,116],[112],[114,111,119],[114,117,110],[]]:List Ln))=true:=inb_t (by simp only [len,List.length_cons,List.length_nil]; omega)
   have hget:lget ([[116,116],[112],[114,111,119],[114,117,110],[]]:List Ln) (toN (dep l[i])) []=namK.getD k []:=by
    have:toN (dep l[i])=k:=htn
    rw [this]
    rfl
   obtain ⟨j,j1,j2,j3,j4⟩:=hI.path (k - 1) (by omega)
   have hw:w64 (isub (dep l[i]) 1)=((k - 1:Nat):Int):=by simp only [isub]; rw [w64_id (by omega)]; omega
   have hwi:w64 (isub (i:Int) 1)=((i - 1:Nat):Int):=by simp only [isub]; rw [w64_id (by omega)]; omega
   have main:(some (seq (l.getD j ndz).1 (namK.getD (k - 1) [])):Option Bool)=some (decide (op.getD (k - 1) []=namK.getD (k - 1) [])):=by
    rw [j3]
    by_cases h:op.getD (k - 1) []=namK.getD (k - 1) []
    ·rw [sq h,decide_eq_true h]
    ·rw [sqf h,decide_eq_false h]
   have fin:fitS l[i] (op.getD (k - 1) []) (noE d)=(decide (l[i].1=namK.getD k []) && decide (op.getD (k - 1) []=namK.getD (k - 1) [])):=by
    have hkl:k≤op.length:=by omega
    have h234:k=2∨k=3∨k=4:=by omega
    rcases h234 with rfl | rfl | rfl<;>rcases hI.sh with ⟨ho,_⟩ | ⟨ho,_⟩ | ⟨ho,_⟩ | ⟨ho,_⟩ | ⟨ho,_⟩ | ⟨ho,_⟩ | ⟨ho,_⟩<;>rw [ho] at hkl ⊢<;>first
     |(exfalso; simp only [List.length_cons,List.length_nil] at hkl; omega)
     |(show _=(decide _ && true); rw [Bool.and_true]; rfl)
     |(show _=(decide _ && false); rw [Bool.and_false]; rfl)
   have hval:(jn (fun (v1:Int) =>
     grd (inb v1 (len l)) <|
     grd (inb (w64 (isub (dep l[i]) (1:Int))) (len ([[116,116],[112],[114,111,119],[114,117,110],[]]:List Ln))) <|
     some (seq (lget l (toN v1) ([],([],([],(0:Int))))).1 (lget ([[116,116],[112],[114,111,119],[114,117,110],[]]:List Ln) (toN (w64 (isub (dep l[i]) (1:Int)))) [])))
    fun v2 =>
    fixN (fun v3 (v4:Int) =>
     grd (inb v4 (len l)) <|
     cnd (ine (lget l (toN v4) ([],([],([],(0:Int))))).2.2.2 (w64 (isub (dep l[i]) (1:Int))))
      (v3 (w64 (isub v4 (1:Int))))
      (v2 v4)) fuelH (w64 (isub (i:Int) (1:Int))))=some (decide (op.getD (k - 1) []=namK.getD (k - 1) [])):=by
    rw [jn_e,hw,hwi,back_loop (by omega) _ j2 (i - 1 - j) (i - 1) fuelH (by omega) (by omega) (by omega) fun q q1 q2=>j4 q q1 (by omega)]
    rw [grd_t (inb_t (by simp only [len]; omega)),grd_t (inb_t (by simp only [len,List.length_cons,List.length_nil]; omega)),lgetn (by omega),← main,gD (by omega)]
    have:toN ((k - 1:Nat):Int)=k - 1:=by simp [toN]
    rw [this]
    rfl
   rw [htn,fin,grd_t hin,hget]
   by_cases c:l[i].1=namK.getD k []
   ·rw [cnd_f (by simpa [sne] using c.symm),decide_eq_true c,Bool.true_and,cnd_f (ilt_f (by omega))]
    exact hval
   ·rw [cnd_t (by simpa [sne] using fun q=>c q.symm),decide_eq_false c,Bool.false_and,cnd_f (ieq_f hk1),cnd_t (by rfl)]
end
end Go.Mo
end

section
/-
  Plain facts: Build of the reference; TtmlBuilds returns true.
-/
set_option linter.all false
namespace Go.Mo
open Go Go.W Go.Lib
set_option maxRecDepth 100000
noncomputable section
theorem aln_eq (N:Nat):q113 N ()=some ([]::gl0):=rfl
theorem clr_eq (N:Nat):q119 N ()=some gl1:=rfl
theorem root_eq {d:Doc} {n:Nd} (hs:smN n):q112 fuelH ((n,0),d)=some ((n,(addTt d n).1),(addTt d n).2):=by
 have hMax:(1099511627776:Int)≤4611686018427387904:=by omega
 unfold q112
 dsimp only
 simp only [lst_id,pr_eta]
 rw [rtext_eq hs,bnd_some']
 dsimp only
 rw [rtext_eq hs,bnd_some']
 dsimp only
 rw [rtext_eq hs,bnd_some']
 dsimp only
 rw [rrate_eq,bnd_some',note_eq,bnd_some',rfl_eq2 hs,bnd_some']
 dsimp only
 rw [tnum_eq hs _ _ hMax,bnd_some']
 rfl
theorem region_eq {d:Doc} {n:Nd} (hs:smN n) (hr:d.2.2.2.2.2.1.length≤1000000):q114 fuelH ((n,0),d)=some ((n,(addRg d n).1),(addRg d n).2):=by
 unfold q114
 dsimp only
 simp only [lst_id,pr_eta]
 rw [rtext_eq hs,bnd_some']
 dsimp only
 rw [tnum_eq hs _ _ (by omega),bnd_some']
 dsimp only
 rw [tnum_eq hs _ _ (by omega),bnd_some']
 dsimp only
 rw [tnum_eq hs _ _ (by omega),bnd_some']
 dsimp only
 rw [tnum_eq hs _ _ (by omega),bnd_some']
 dsimp only
 rw [aln_eq,bnd_some',grd_t (by rfl)]
 have e:cutl ([]::gl0) (toN (1:Int)) (nsub (nlen ([]::gl0)) (toN (1:Int)))=gl0:=rfl
 rw [e,rch_eq hs _ (by decide),bnd_some']
 dsimp only
 rw [rch_eq hs _ (by simp),bnd_some']
 dsimp only
 rw [grd_t (room_t (by simp only [iadd,len,List.length_cons,List.length_nil]; omega))]
 rfl
theorem event_eq {d:Doc} {n:Nd} (hs:smN n) (hr:d.2.2.2.2.2.2.1.length≤1000000):q118 fuelH ((n,0),d)=some ((n,(addEv d n).1),(addEv d n).2):=by
 have hMax:(1099511627776:Int)≤4611686018427387904:=by omega
 unfold q118
 dsimp only
 simp only [lst_id,pr_eta]
 rw [tnum_eq hs _ _ hMax,bnd_some']
 dsimp only
 rw [rfrm_eq hs,bnd_some']
 dsimp only
 rw [rfrm_eq hs,bnd_some']
 dsimp only
 rw [rtext_eq hs,bnd_some']
 dsimp only
 rw [rtext_eq hs,bnd_some']
 dsimp only
 rw [rkind_eq2,bnd_some',note_eq,bnd_some',rtext_eq hs,bnd_some']
 dsimp only
 rw [grd_t (room_t (by simp only [iadd,len,List.length_cons,List.length_nil]; omega))]
 have:∀ x:Ev,lapp d.2.2.2.2.2.2.1 [x]=d.2.2.2.2.2.2.1++[x]:=fun _=>rfl
 rw [this,app_last]
 rfl
theorem last_n {α:Type} {xs:List α} (h:xs≠[]):ieq (ofN (nsub (nlen xs) 1)) (isub (len xs) 1)=true:=by
 have h1:1≤xs.length:=by cases xs with | nil=>exact absurd rfl h | cons _ _=>simp
 refine ieq_t ?_
 show ((xs.length - 1:Nat):Int)=(xs.length:Int) - 1
 omega
theorem trun_eq {n:Nd} (hs:smN n) {rows:List Row} (h:rows≠[]) (hl:(lstG rows []).length≤1000000):q120 fuelH ((n,0),rows)=some ((n,fstE (fstE (colT n).2 (flT n [105,116,97,108,105,99]).2) (flT n [117,110,100,101,114,108,105,110,101]).2),lstS rows (lstG rows []++[runT n])):=by
 unfold q120
 rw [clr_eq,bnd_some']
 dsimp only
 rw [rch_eq hs _ (by decide),bnd_some']
 dsimp only
 rw [rfl_eq2 hs,bnd_some']
 dsimp only
 rw [rfl_eq2 hs,bnd_some']
 dsimp only
 rw [rtext_eq hs,bnd_some']
 dsimp only
 rw [grd_t (last_n h),grd_t (room_t (by simp only [iadd,len,List.length_cons,List.length_nil]; omega)),grd_t (last_n h)]
 rfl
theorem build_ref {l:List Nd} (hs:∀ n∈l,smN n) (hb:bkL wtN l≤4000000):q136 fuelH l=some (buildS l):=by
 have hfu:=fuelH_eq
 have hl:l.length≤4000000:=Nat.le_trans (bk_len (f:=wtN) (fun n=>by unfold wtN; omega) l) hb
 unfold q136 buildS
 rw [bnd_s (rcheck_eq hl hs)]
 by_cases hc:chkE l=0
 ·have hck:=(chk_at hc).2.2
  have h8:=(chk_at hc).2.1
  have hd:=deep_of hck
  rw [cnd_f (ine_f hc),if_neg (by simpa using hc)]
  simp only [lst_id,pr_eta]
  rw [jn_e]
  refine Eq.trans (drop_loop (R:=Doc×Int×Int) (s:=l)
   (fun (a:List Ln×Doc) (j:Nat)=>((j:Int),a.2)) (fun a r=>some (goS (l.length - r.length) a.1 a.2 r)) (fun j a=>Inv l j a.1 a.2) ?_ fuelH 0 ([],noD0) (by omega) (Nat.zero_le _) (inv0 l)) ?_
  ·intro self a j hj hI hself
   by_cases hjl:j<l.length
   ·have hin:inb (j:Int) (len l)=true:=inb_t (by simp only [len]; omega)
    have hw:w64 (iadd (j:Int) 1)=((j+1:Nat):Int):=w64_succ hjl (by omega)
    have hn:=hs _ (List.getElem_mem hjl)
    have hu:=uniq_of (hck j hjl)
    dsimp only
    rw [cnd_t (ilt_t (by simp only [len]; omega)),grd_t hin,lgetn hjl,hw,allowed_eq hc hjl hI,bnd_some',List.drop_eq_getElem_cons hjl]
    have e1:l.length - (l[j]::l.drop (j+1)).length=j:=by rw [List.length_cons,List.length_drop]; omega
    rw [e1]
    unfold goS okN
    cases hf:fitS l[j] (parO a.1 l[j]) (noE a.2) with
    | false=>rw [cnd_t (by rfl),Bool.false_and,if_pos rfl]; rfl
    | true =>
     have hx:=nx_of hc hjl hI hf
     have hR:=hasR_of (by omega) hI hx
     rw [cnd_f (by rfl),fits_eq hn,bnd_some',Bool.true_and]
     cases ha:attS l[j] with
     | false=>rw [cnd_t (by rfl),if_pos rfl]; rfl
     | true =>
      rw [cnd_f (by rfl),if_neg (by simp)]
      have fin:(cnd (ine (addS a.2 l[j]).1 0) (some ((([]:Ln),([]:Ln),(0:UInt8),false,(0:Int),([]:List Reg),([]:List Ev),([]:List Cmt)),(j:Int),(addS a.2 l[j]).1)) (self (((j+1:Nat):Int),(addS a.2 l[j]).2)))=some (if (addS a.2 l[j]).1≠0 then (noD0,(j:Int),(addS a.2 l[j]).1) else goS (j+1) (a.1.take (dep l[j]).toNat++[l[j].1]) (addS a.2 l[j]).2 (l.drop (j+1))):=by
       by_cases he:(addS a.2 l[j]).1=0
       ·rw [cnd_f (ine_f he),if_neg (by simpa using he)]
        refine (hself (a.1.take (dep l[j]).toNat++[l[j].1],(addS a.2 l[j]).2) (j+1) (by omega) (by omega) (inv_step hs hjl hI hx)).trans ?_
        have e3:l.length - (l.drop (j+1)).length=j+1:=by rw [List.length_drop]; omega
        rw [e3]
       ·rw [cnd_t (ine_t he),if_pos (by simpa using he)]
        rfl
      rw [jn_e]
      by_cases c1:l[j].1=[116,116]
      ·have ea:addS a.2 l[j]=addTt a.2 l[j]:=by unfold addS; rw [if_pos c1]
       rw [ea] at fin
       rw [cnd_t (sq c1),root_eq hn,bnd_some']
       rw [ea]
       exact fin
      rw [cnd_f (sqf c1)]
      by_cases c2:l[j].1=[114,101,103,105,111,110]
      ·have ea:addS a.2 l[j]=addRg a.2 l[j]:=by unfold addS; rw [if_neg c1,if_pos c2]
       rw [ea] at fin
       rw [cnd_t (sq c2),region_eq hn hR.rg,bnd_some']
       rw [ea]
       exact fin
      rw [cnd_f (sqf c2)]
      by_cases c3:l[j].1=[112]
      ·have ea:addS a.2 l[j]=addEv a.2 l[j]:=by unfold addS; rw [if_neg c1,if_neg c2,if_pos c3]
       rw [ea] at fin
       rw [cnd_t (sq c3),event_eq hn hR.ev,bnd_some']
       rw [ea]
       exact fin
      rw [cnd_f (sqf c3)]
      obtain ⟨r1,r2⟩:=hR.row c1 c2 c3
      obtain ⟨g1,g2,g3,g4⟩:=last_g r1 (by have:=hR.ev; omega)
      have hz:((0:Int),(((0:Int),(0:Int)),([],((0:UInt8),([],[])))))=evY:=rfl
      rw [hz]
      have hl1:(lstG a.2.2.2.2.2.2.2.1 evY).2.2.2.2.2.length≤1000000:=r2
      by_cases c4:l[j].1=[114,111,119]
      ·have ea:addS a.2 l[j]=(0,setR a.2 (rowsL a.2++[[]])):=by unfold addS; rw [if_neg c1,if_neg c2,if_neg c3,if_pos c4]
       rw [ea] at fin
       rw [cnd_t (sq c4),grd_t g1,grd_t g2,grd_t g3,grd_t (room_t (by simp only [iadd,len,List.length_cons,List.length_nil]; omega)),grd_t g3]
       have:∀ (l:List Row) (x:Row),lapp l [x]=l++[x]:=fun _ _=>rfl
       rw [this,app_last]
       rw [ea]
       exact fin
      rw [cnd_f (sqf c4)]
      obtain ⟨s1,s2⟩:=hR.run c1 c2 c3 c4
      have s1:(lstG a.2.2.2.2.2.2.2.1 evY).2.2.2.2.2≠[]:=s1
      obtain ⟨k1,k2,k3,k4⟩:=last_g s1 (by omega)
      have hl2:(lstG (lstG a.2.2.2.2.2.2.2.1 evY).2.2.2.2.2 []).length≤1000000:=s2
      rw [grd_t g1,grd_t g2,grd_t g3,grd_t g3,grd_t k1,grd_t k2]
      by_cases c5:l[j].1=[114,117,110]
      ·have ea:addS a.2 l[j]=addRn a.2 l[j]:=by unfold addS; rw [if_neg c1,if_neg c2,if_neg c3,if_neg c4,if_pos c5]
       rw [ea] at fin
       rw [cnd_t (sq c5),grd_t k3,trun_eq hn s1 hl2,bnd_some']
       rw [ea]
       exact fin
      have ea:addS a.2 l[j]=addTx a.2 l[j]:=by unfold addS; rw [if_neg c1,if_neg c2,if_neg c3,if_neg c4,if_neg c5]
      have t1:lstG (lstG a.2.2.2.2.2.2.2.1 evY).2.2.2.2.2 []≠[]:=hR.tx c1 c2 c3 c4 c5
      obtain ⟨m1,m2,m3,m4⟩:=last_g t1 (by omega)
      have htx:(lstG (lstG (lstG a.2.2.2.2.2.2.2.1 evY).2.2.2.2.2 []) runZ).1=[]:=by
       cases hx with
       | tt _ _ _ hn1 _=>exact absurd hn1 c1
       | p _ _ hn1=>exact absurd hn1 c3
       | rg _ _ hn1 _=>exact absurd hn1 c2
       | row _ _ hn1 _=>exact absurd hn1 c4
       | run _ _ hn1 _ _=>exact absurd hn1 c5
       | tx _ _ _ _ _ _ ht=>exact ht
      rw [ea] at fin
      have hru:((([]:Ln),(((0:UInt8),(false,false)),([]:Ln))):Run)=runZ:=rfl
      have htl:=hn.tx
      rw [cnd_f (sqf c5),grd_t k3,grd_t k3,grd_t m1,m4,lget_lst t1,hru,htx,grd_t (catOk_t (by simp only [iadd,len,List.length_nil]; omega)),grd_t m1,lset_lst,ea]
      exact fin
   ·obtain rfl:j=l.length:=by omega
    have hsm:=inv_small hI hl (by rw [List.take_length]; exact hb)
    dsimp only
    rw [cnd_f (ilt_f (by simp only [len]; omega)),List.drop_length,bnd_s (r12_check hsm)]
    unfold goS finS
    by_cases h:docChk a.2=0
    ·rw [cnd_f (ine_f h),if_neg (by simpa using h)]
    ·rw [cnd_t (ine_t h),if_pos h]
     rfl
  ·rw [List.drop_zero,Nat.sub_self]
 ·rw [cnd_t (ine_t hc),if_pos hc]
  rfl
theorem l21_nodes_eq (l:List Nd):l21_nodes fuelH l=some (l.take 40):=by
 unfold l21_nodes
 obtain ⟨e1,e2⟩:=min_take l 40
 have e1:ltake (toN (imin (len l) (40:Int))) l=_:=e1
 rw [grd_t (show in2 (imin (len l) (40:Int)) (len l)=true from e2),e1]
theorem goS_thin {l:List Nd} (hs:∀ n∈l,smN n) (hc:chkE l=0):∀ (k i:Nat) (op:List Ln) (d:Doc),i+k=l.length→Inv l i op d→ThinD (goS i op d (l.drop i)).1∧(goS i op d (l.drop i)).1.2.2.2.2.2.2.2=[]:=by
 have hno:ThinD noD0∧noD0.2.2.2.2.2.2.2=[]:=⟨⟨by simp [noD0],by simp [noD0],(fun x hx=>by cases hx),by simp [noD0]⟩,rfl⟩
 intro k
 induction k with
 | zero =>
  intro i op d h hI
  have hi:i=l.length:=by omega
  rw [hi,List.drop_length]
  unfold goS finS
  by_cases h:docChk d=0
  ·rw [if_neg (by simpa using h)]
   exact ⟨thin_of h (by rw [hI.cm]; simp),hI.cm⟩
  ·rw [if_pos h]; exact hno
 | succ k ih =>
  intro i op d h hI
  have hi:i<l.length:=by omega
  rw [List.drop_eq_getElem_cons hi]
  unfold goS okN
  by_cases hf:fitS l[i] (parO op l[i]) (noE d)=true
  ·have hx:=nx_of hc hi hI hf
   split
   ·exact hno
   split
   ·exact hno
   exact ih (i+1) _ _ (by omega) (inv_step hs hi hI hx)
  ·have hf:fitS l[i] (parO op l[i]) (noE d)=false:=by simpa using hf
   rw [hf,Bool.false_and,if_pos rfl]
   exact hno
theorem build_thin {l:List Nd} (hs:∀ n∈l,smN n):ThinD (buildS l).1∧(buildS l).1.2.2.2.2.2.2.2=[]:=by
 unfold buildS
 by_cases hc:chkE l=0
 ·rw [if_neg (by simpa using hc)]
  have:=goS_thin hs hc l.length 0 [] noD0 (by omega) (inv0 l)
  rwa [List.drop_zero] at this
 ·rw [if_pos hc]
  exact ⟨⟨by simp [noD0],by simp [noD0],(fun x hx=>by cases hx),by simp [noD0]⟩,rfl⟩
theorem build_self {l:List Nd} (hs:∀ n∈l,smN n):q146 fuelH ((buildS l).1,(buildS l).1)=some true :=
 self_thin (build_thin hs).1 (build_thin hs).2
theorem builds_true {x:List Nd} (hb:bkL wtN x+1+0≤1048576):l21_TtmlBuilds fuelH x=some true:=by
 have hbt:bkL wtN (x.take 40)≤1048576:=Nat.le_trans (bk_take 40 x) (by omega)
 have hs:∀ n∈x.take 40,smN n:=sm_of (Nat.le_trans hbt (by omega))
 unfold l21_TtmlBuilds
 rw [awake21,bnd_some',cnd_f (by rfl),l21_nodes_eq,bnd_some',build_prog hs (by omega),bnd_some',build_ref hs (by omega),bnd_some',build_self hs,bnd_some',cnd_t rfl,cnd_t (ieq_t rfl),ieq_t rfl]
end
end Go.Mo
end
