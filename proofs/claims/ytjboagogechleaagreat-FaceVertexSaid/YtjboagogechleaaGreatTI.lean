import Derived.Test.YtjboagogechleaaGreatTH
namespace Go.Ab.M
open Go.Proofs
set_option linter.unusedVariables false
set_option linter.defProp false
set_option maxRecDepth 100000
def vH (s:List Int):Option (List Int):=bif decide (0<s.length) then bif decide (0+s.length<=2147483648) then some ([]++s) else none else none
theorem Bz (s:List Int):∀r,vH s=some r->ak Tryz.prog 60 0 [SL K4 s] [] (SL K4 r) []:=
 ay 10 (.op 10002 (.ln K4 s) (.op 30004 (.ap K4 [] s 1 fun _=>⟨rfl,rfl⟩) (.ps 1000003 [.z 2] (.ret ([]++s))))) Tryz.func60
def bY (s:List Int):Option (List Int):=bif decide (s.length<=2147483648) then some s else none
theorem nM (s:List Int):∀r,bY s=some r->ak Tryz.prog 60 0 [SL K4 s] [] (SL K4 r) []:=fun r h=>by
 by_cases hl:s.length<=2147483648
 ·rw[show bY s=some s from by unfold bY;rw[zz hl];rfl] at h
  cases h
  cases s with
  | nil=>exact acG
  | cons a t=>exact Bz (a::t) (a::t) (by unfold vH;rw[zz (show 0<(a::t).length by simp),zz (show 0+(a::t).length<=2147483648 by omega)];rfl)
 ·rw[show bY s=none from by unfold bY;rw[zw hl];rfl] at h
  cases h
def Fb (o0:Int) (w:Edge):Option Bool:=some (w.To==o0)
theorem Lj (o0:Int) (w:Edge):∀r,Fb o0 w=some r->ak Tryz.prog 144 1 [AG Edge.D w,.ptr 0 0 0] [(0,BOX [I o0])] (B r) [(0,BOX [I o0])]:=
 ay 10 (.ret (w.To==o0)) Tryz.func144
def yY (o0:Int) (l:List Edge) (out:List Edge) (i:Nat):St:=⟨23,1,[(1,.fn (.func 144) [] [.ptr 0 0 0]),(5,dh 100009 out),(8,SL Edge.D l),(9,I (l.length:Int)),(10,I (i:Int))],[(0,BOX [I o0]),(100009,dI 5 Edge.D out)]⟩
def yV (o0:Int) (l:List Edge) (out:List Edge):St:=⟨23,1,[(5,dh 100009 out)],[(0,BOX [I o0]),(100009,dI 5 Edge.D out)]⟩
def cZ (o0:Int) (l:List Edge) (out:List Edge) (i:Nat):Option ((List Edge×Nat)⊕(List Edge)):=bif decide ((i:Int)<(l.length:Int)) then G1 (i<l.length)<|(Fb o0 (nth l i)).bind fun x0=>bif x0 then G1 (out.length+1<=2147483648)<|G3 ((i:Int)+1)<|some (.inl (out++[nth l i],i+1)) else G3 ((i:Int)+1)<|some (.inl (out,i+1)) else some (.inr out)
theorem zf (o0:Int) (l:List Edge):∀σ:List Edge×Nat,aP Tryz.prog (nav [1,1,0,1,0,0] (aj Tryz.f109)) (fun (σ:List Edge×Nat)=>yY o0 l σ.1 σ.2) (fun (_:List Edge)=>(.exit 0)) (fun (y:List Edge)=>yV o0 l y) σ (cZ o0 l σ.1 σ.2)
 | ([],i)=>aK 1010 (.br 100000011 (.op 40000 (.el Edge.D l (.up i)) (.call [0] [] (Lj o0 (nth l i)) .no fun x0=>.br 100000016 (.op 60006 (.ap Edge.D [] [nth l i] 5 fun _=>⟨rfl,rfl⟩) (.ps 1000003 [.k [1,5,8,9,10] [0,1012],.m 1012 100009] (.ret (.inl ([nth l i],i+1))))) (G4 [1,5,8,9,10] [0,100009] (.ret (.inl ([],i+1)))))) (G4 [5] [0,100009] (.ret (.inr []))))
 | (lQ::lS,i)=>aK 1010 (.br 100000011 (.op 40000 (.el Edge.D l (.up i)) (.call [0] [] (Lj o0 (nth l i)) .no fun x0=>.br 100000016 (.op 60006 (.ap Edge.D (lQ::lS) [nth l i] 5 fun _=>⟨rfl,rfl⟩) (.ps 1000003 [.k [1,5,8,9,10] [0,1012],.m 1012 100009] (.ret (.inl ((lQ::lS)++[nth l i],i+1))))) (G4 [1,5,8,9,10] [0,100009] (.ret (.inl ((lQ::lS),i+1)))))) (G4 [5] [0,100009] (.ret (.inr (lQ::lS)))))
def rJ (o0:Int) (l:List Edge) (out:List Edge) (i:Nat):Option (List Edge):=aN (fun (σ:List Edge×Nat)=>cZ o0 l σ.1 σ.2) FU (out,i)
def yR (o0:Int) (l:List Edge) (out:List Edge) (i:Nat):=
 aU (zf o0 l) (fun _ h=>by cases h) FU (out,i)
def jg (o0:Int) (l:List Edge):Option (List Edge):=(rJ o0 l [] 0).bind fun x0=>some x0
theorem Bd (o0:Int) (l:List Edge):∀r,jg o0 l=some r->ak Tryz.prog 109 1 [SL Edge.D l,.fn (.func 144) [] [.ptr 0 0 0]] [(0,BOX [I o0])] (SL Edge.D r) [(0,BOX [I o0])]:=
 ay 10 (.op 20002 (.ln Edge.D l) (K3 [1,5,8,9,10] [0,100009] (.lp1 0 (yR o0 l [] 0) fun x0=>.oz 1 5 100009 5 Edge.D x0 (.ps 1 [.k [5] [0]] (.ret x0))))) Tryz.func109
def Iu (g:Graph) (v:Int):Option (List Edge):=(jH g).bind fun x0=>bif !x0 then some [] else (jg v g.ah).bind fun x1=>some x1
theorem SH (g:Graph) (v:Int):∀r,Iu g v=some r->ak Tryz.prog 91 0 [AG Graph.D g,I v] [] (SL Edge.D r) []:=
 ay 10 (.call [] [] (l9 g) .no fun x0=>.br 100000007 (.ps 1000003 [.n 4] (.ret [])) (.call [11] [] (Bd v g.ah) .no fun x1=>.ret x1)) Tryz.func91
def Ci (o0:Int) (w:Edge):Option Bool:=some (w.From==o0)
theorem IW (o0:Int) (w:Edge):∀r,Ci o0 w=some r->ak Tryz.prog 145 1 [AG Edge.D w,.ptr 0 0 0] [(0,BOX [I o0])] (B r) [(0,BOX [I o0])]:=
 ay 10 (.ret (w.From==o0)) Tryz.func145
def zi (o0:Int) (l:List Edge) (out:List Edge) (i:Nat):St:=⟨23,1,[(1,.fn (.func 145) [] [.ptr 0 0 0]),(5,dh 100010 out),(8,SL Edge.D l),(9,I (l.length:Int)),(10,I (i:Int))],[(0,BOX [I o0]),(100010,dI 5 Edge.D out)]⟩
def yX (o0:Int) (l:List Edge) (out:List Edge):St:=⟨23,1,[(5,dh 100010 out)],[(0,BOX [I o0]),(100010,dI 5 Edge.D out)]⟩
def dw (o0:Int) (l:List Edge) (out:List Edge) (i:Nat):Option ((List Edge×Nat)⊕(List Edge)):=bif decide ((i:Int)<(l.length:Int)) then G1 (i<l.length)<|(Ci o0 (nth l i)).bind fun x0=>bif x0 then G1 (out.length+1<=2147483648)<|G3 ((i:Int)+1)<|some (.inl (out++[nth l i],i+1)) else G3 ((i:Int)+1)<|some (.inl (out,i+1)) else some (.inr out)
theorem yN (o0:Int) (l:List Edge):∀σ:List Edge×Nat,aP Tryz.prog (nav [1,1,0,1,0,0] (aj Tryz.f109)) (fun (σ:List Edge×Nat)=>zi o0 l σ.1 σ.2) (fun (_:List Edge)=>(.exit 0)) (fun (y:List Edge)=>yX o0 l y) σ (dw o0 l σ.1 σ.2)
 | ([],i)=>aK 1010 (.br 100000011 (.op 40000 (.el Edge.D l (.up i)) (.call [0] [] (IW o0 (nth l i)) .no fun x0=>.br 100000016 (.op 60006 (.ap Edge.D [] [nth l i] 5 fun _=>⟨rfl,rfl⟩) (.ps 1000003 [.k [1,5,8,9,10] [0,1012],.m 1012 100010] (.ret (.inl ([nth l i],i+1))))) (G4 [1,5,8,9,10] [0,100010] (.ret (.inl ([],i+1)))))) (G4 [5] [0,100010] (.ret (.inr []))))
 | (lQ::lS,i)=>aK 1010 (.br 100000011 (.op 40000 (.el Edge.D l (.up i)) (.call [0] [] (IW o0 (nth l i)) .no fun x0=>.br 100000016 (.op 60006 (.ap Edge.D (lQ::lS) [nth l i] 5 fun _=>⟨rfl,rfl⟩) (.ps 1000003 [.k [1,5,8,9,10] [0,1012],.m 1012 100010] (.ret (.inl ((lQ::lS)++[nth l i],i+1))))) (G4 [1,5,8,9,10] [0,100010] (.ret (.inl ((lQ::lS),i+1)))))) (G4 [5] [0,100010] (.ret (.inr (lQ::lS)))))
def rO (o0:Int) (l:List Edge) (out:List Edge) (i:Nat):Option (List Edge):=aN (fun (σ:List Edge×Nat)=>dw o0 l σ.1 σ.2) FU (out,i)
def yS (o0:Int) (l:List Edge) (out:List Edge) (i:Nat):=
 aU (yN o0 l) (fun _ h=>by cases h) FU (out,i)
def jf (o0:Int) (l:List Edge):Option (List Edge):=(rO o0 l [] 0).bind fun x0=>some x0
theorem AP (o0:Int) (l:List Edge):∀r,jf o0 l=some r->ak Tryz.prog 109 1 [SL Edge.D l,.fn (.func 145) [] [.ptr 0 0 0]] [(0,BOX [I o0])] (SL Edge.D r) [(0,BOX [I o0])]:=
 ay 10 (.op 20002 (.ln Edge.D l) (K3 [1,5,8,9,10] [0,100010] (.lp1 0 (yS o0 l [] 0) fun x0=>.oz 1 5 100010 5 Edge.D x0 (.ps 1 [.k [5] [0]] (.ret x0))))) Tryz.func109
def ER (g:Graph) (v:Int):Option (List Edge):=(jH g).bind fun x0=>bif !x0 then some [] else (jf v g.ah).bind fun x1=>some x1
theorem Ot (g:Graph) (v:Int):∀r,ER g v=some r->ak Tryz.prog 92 0 [AG Graph.D g,I v] [] (SL Edge.D r) []:=
 ay 10 (.call [] [] (l9 g) .no fun x0=>.br 100000007 (.ps 1000003 [.n 4] (.ret [])) (.call [11] [] (AP v g.ah) .no fun x1=>.ret x1)) Tryz.func92
def J9 (g:Graph) (i:Nat) (j:List Rat):St:=⟨24,0,[(2,.ptr 11 0 0),(3,.ptr 12 0 0),(13,I (g.aA*g.Ins)),(14,I (i:Int))],[(0,dI 3 Rat.D j),(11,BOX [I 0,I 0,fE]),(12,BOX [I g.aA,I g.Ins,dh 0 j])]⟩
def Ku (g:Graph) (j:List Rat):St:=⟨24,0,[(2,.ptr 11 0 0),(3,.ptr 12 0 0)],[(0,dI 3 Rat.D j),(11,BOX [I 0,I 0,fE]),(12,BOX [I g.aA,I g.Ins,dh 0 j])]⟩
def gY (g:Graph) (i:Nat) (j:List Rat):Option ((Nat×List Rat)⊕(List Rat)):=bif decide ((i:Int)<(g.aA*g.Ins)) then (vW 0).bind fun x0=>G1 (j.length+1<=2147483648)<|G3 ((i:Int)+1)<|some (.inl (i+1,j++[x0])) else some (.inr j)
theorem Kw (g:Graph):∀σ:Nat×List Rat,aP Tryz.prog (nav [1,1,0,1,0,0] (aj Tryz.f79)) (fun (σ:Nat×List Rat)=>J9 g σ.1 σ.2) (fun (_:List Rat)=>(.exit 0)) (fun (y:List Rat)=>Ku g y) σ (gY g σ.1 σ.2)
 | (i,[])=>aK 1010 (.br 100000015 (.call [] [] (uH 0) .no fun x0=>.op 40008 (.ap Rat.D [] [x0] 3 fun _=>⟨rfl,rfl⟩) (.ps 1000003 [.k [2,3,13,14] [1011,11,12],.m 1011 0] (.ret (.inl (i+1,[x0]))))) (G4 [2,3] [0,11,12] (.ret (.inr []))))
 | (i,j_h::j_t)=>aK 1010 (.br 100000015 (.call [] [] (uH 0) .no fun x0=>.op 40008 (.ap Rat.D (j_h::j_t) [x0] 3 fun _=>⟨rfl,rfl⟩) (.ps 1000003 [.k [2,3,13,14] [1011,11,12],.m 1011 0] (.ret (.inl (i+1,(j_h::j_t)++[x0]))))) (G4 [2,3] [0,11,12] (.ret (.inr (j_h::j_t)))))
def EM (g:Graph) (i:Nat) (j:List Rat):Option (List Rat):=aN (fun (σ:Nat×List Rat)=>gY g σ.1 σ.2) FU (i,j)
def Kr (g:Graph) (i:Nat) (j:List Rat):=
 aU (Kw g) (fun _ h=>by cases h) FU (i,j)
def uT (g:Graph):Option Jac:=bif inK .i64 (g.aA*g.Ins) then (EM g 0 []).bind fun x0=>bif x0.isEmpty then none else some (Jac.mk g.aA g.Ins x0) else none
theorem OE (g:Graph):∀r,uT g=some r->ak Tryz.prog 79 0 [AG Graph.D g] [] (.agg [I r.Rows,I r.uQ,.msl 0 0 none none]) [(0,ROW 3 Rat.D r.All 0)]:=
 ay 10 (K3 [2,3,13,14] [0,11,12] (.lp1 0 (Kr g 0 []) fun x0=>.cb 1 12 2 0 3 Rat.D x0 (.ps 1 [.k [2,3] [11,12]] .nil) (.ps 1 [.k [2,3] [0,11,12]] (.ret (Jac.mk g.aA g.Ins x0))))) Tryz.func79
def MV (tA:Graph) (x1:Jac) (i:Nat) (o:List Rat) (i1:Nat) (o1:List Rat):St:=⟨87,0,[(1,.ptr 10 0 0),(2,.ptr 11 0 0),(3,.ptr 12 0 0),(4,I (i:Int)),(5,.msl 1010 0 none (some (((tA.Ins+tA.aG)+tA.aA).toNat))),(16,I tA.Ins),(17,I (i:Int)),(34,SL Edge.D tA.ah),(35,I (tA.ah.length:Int)),(36,I (i1:Int))],[(10,BOX [I tA.Ins,I tA.aG,I tA.aA,SL Edge.D tA.ah,SL K4 tA.Gone]),(11,BOX [I 0,I 0,fE]),(12,BOX [I x1.Rows,I x1.uQ,.msl 100012 0 none none]),(1010,ROW 3 Rat.D o1 0),(100012,ROW 3 Rat.D o 0)]⟩
def Na (tA:Graph) (x1:Jac) (i:Nat) (o:List Rat) (o1:List Rat):St:=⟨87,0,[(1,.ptr 10 0 0),(2,.ptr 11 0 0),(3,.ptr 12 0 0),(4,I (i:Int)),(5,.msl 1010 0 none (some (((tA.Ins+tA.aG)+tA.aA).toNat))),(16,I tA.Ins),(17,I (i:Int))],[(10,BOX [I tA.Ins,I tA.aG,I tA.aA,SL Edge.D tA.ah,SL K4 tA.Gone]),(11,BOX [I 0,I 0,fE]),(12,BOX [I x1.Rows,I x1.uQ,.msl 100012 0 none none]),(1010,ROW 3 Rat.D o1 0),(100012,ROW 3 Rat.D o 0)]⟩
def iF (tA:Graph) (x1:Jac) (i:Nat) (o:List Rat) (i1:Nat) (o1:List Rat):Option ((Nat×List Rat)⊕(List Rat)):=let y0:=nth tA.ah i1;let y1:=(y0.To).toNat<o1.length;let y2:=(y0.From).toNat<o1.length;let y3:=(y0.To).toNat;bif decide ((i1:Int)<(tA.ah.length:Int)) then G1 (i1<tA.ah.length)<|G1 (0<=y0.To)<|G1 y1<|G1 y1<|G1 (0<=y0.From)<|G1 y2<|G1 y2<|(nI (nth o1 ((y0.From).toNat)) (y0.W)).bind fun x3=>(mZ (nth o1 y3) x3).bind fun x4=>G1 (0<=y0.To)<|G1 y1<|G1 y1<|G3 ((i1:Int)+1)<|some (.inl (i1+1,o1.set y3 x4)) else some (.inr o1)
theorem Nb (tA:Graph) (x1:Jac) (i:Nat) (o:List Rat):∀σ:Nat×List Rat,aP Tryz.prog (nav [1,1,1,0,1,0,0,1,1,0,0,1,1,1,0,1,0,0] (aj Tryz.f30)) (fun (σ:Nat×List Rat)=>MV tA x1 i o σ.1 σ.2) (fun (_:List Rat)=>(.exit 2)) (fun (y:List Rat)=>Na tA x1 i o y) σ (iF tA x1 i o σ.1 σ.2)
 | (i1,o1)=>let y0:=nth tA.ah i1;let y1:=(y0.To).toNat;aK 2010 (.br 100000037 (.op 110000 (.el Edge.D tA.ah (.up i1)) (.op 120012 (.el Rat.D o1 .dn) (.op 120014 (.ld Rat.D o1) (.op 120022 (.el Rat.D o1 .dn) (.op 120024 (.ld Rat.D o1) (.call [] [] (wz (nth o1 ((y0.From).toNat)) (y0.W)) .no fun x3=>.call [] [] (rF (nth o1 y1) x3) .no fun x4=>.op 120034 (.el Rat.D o1 .dn) (.op 120036 (.st Rat.D o1 x4) (G4 [1,2,3,4,5,16,17,34,35,36] [10,11,12,1010,100012] (.ret (.inl (i1+1,o1.set y1 x4))))))))))) (G4 [1,2,3,4,5,16,17] [10,11,12,1010,100012] (.ret (.inr o1))))
def Gu (tA:Graph) (x1:Jac) (i:Nat) (o:List Rat) (i1:Nat) (o1:List Rat):Option (List Rat):=aN (fun (σ:Nat×List Rat)=>iF tA x1 i o σ.1 σ.2) FU (i1,o1)
def LM (tA:Graph) (x1:Jac) (i:Nat) (o:List Rat) (i1:Nat) (o1:List Rat):=
 aU (Nb tA x1 i o) (fun _ h=>by cases h) FU (i1,o1)
def MC (tA:Graph) (x1:Jac) (i:Nat) (x3:List Rat) (i1:Nat) (o1:List Rat):St:=⟨87,0,[(1,.ptr 10 0 0),(2,.ptr 11 0 0),(3,.ptr 12 0 0),(4,I (i:Int)),(5,.msl 1010 0 none (some (((tA.Ins+tA.aG)+tA.aA).toNat))),(16,I tA.Ins),(17,I (i:Int)),(60,I tA.aA),(61,I (i1:Int))],[(10,BOX [I tA.Ins,I tA.aG,I tA.aA,SL Edge.D tA.ah,SL K4 tA.Gone]),(11,BOX [I 0,I 0,fE]),(12,BOX [I x1.Rows,I x1.uQ,.msl 100012 0 none none]),(1010,ROW 3 Rat.D x3 0),(100012,ROW 3 Rat.D o1 0)]⟩
def Lu (tA:Graph) (x1:Jac) (i:Nat) (x3:List Rat) (o1:List Rat):St:=⟨87,0,[(1,.ptr 10 0 0),(2,.ptr 11 0 0),(3,.ptr 12 0 0),(16,I tA.Ins),(17,I (i:Int))],[(10,BOX [I tA.Ins,I tA.aG,I tA.aA,SL Edge.D tA.ah,SL K4 tA.Gone]),(11,BOX [I 0,I 0,fE]),(12,BOX [I x1.Rows,I x1.uQ,.msl 100012 0 none none]),(100012,ROW 3 Rat.D o1 0)]⟩
def iE (tA:Graph) (x1:Jac) (i:Nat) (x3:List Rat) (i1:Nat) (o1:List Rat):Option ((Nat×List Rat)⊕(List Rat)):=let y0:=(i1:Int)*tA.Ins;let y2:=y0+(i:Int);let y4:=y2.toNat<o1.length;let y5:=tA.Ins+tA.aG;let y1:=y5+(i1:Int);let y3:=y1.toNat<x3.length;bif decide ((i1:Int)<tA.aA) then G3 y0<|G3 y2<|G3 y5<|G3 y1<|G1 (0<=y5+(i1:Int))<|G1 y3<|G1 y3<|(uq (nth x3 (y1.toNat))).bind fun x4=>G1 (0<=y0+(i:Int))<|G1 y4<|G1 y4<|G3 ((i1:Int)+1)<|some (.inl (i1+1,o1.set (y2.toNat) x4)) else some (.inr o1)
theorem MP (tA:Graph) (x1:Jac) (i:Nat) (x3:List Rat):∀σ:Nat×List Rat,aP Tryz.prog (nav [1,1,1,0,1,0,0,1,1,0,0,1,1,1,1,1,0,0] (aj Tryz.f30)) (fun (σ:Nat×List Rat)=>MC tA x1 i x3 σ.1 σ.2) (fun (_:List Rat)=>(.exit 4)) (fun (y:List Rat)=>Lu tA x1 i x3 y) σ (iE tA x1 i x3 σ.1 σ.2)
 | (i1,o1)=>aK 2010 (.br 100000062 (.op 170032 (.el Rat.D x3 .dn) (.op 170034 (.ld Rat.D x3) (.call [] [] (zV (nth x3 (((tA.Ins+tA.aG)+(i1:Int)).toNat))) .no fun x4=>.op 170038 (.el Rat.D o1 .dn) (.op 170040 (.st Rat.D o1 x4) (G4 [1,2,3,4,5,16,17,60,61] [10,11,12,1010,100012] (.ret (.inl (i1+1,o1.set ((((i1:Int)*tA.Ins)+(i:Int)).toNat) x4)))))))) (G4 [1,2,3,16,17] [10,11,12,100012] (.ret (.inr o1))))
def Gs (tA:Graph) (x1:Jac) (i:Nat) (x3:List Rat) (i1:Nat) (o1:List Rat):Option (List Rat):=aN (fun (σ:Nat×List Rat)=>iE tA x1 i x3 σ.1 σ.2) FU (i1,o1)
def MX (tA:Graph) (x1:Jac) (i:Nat) (x3:List Rat) (i1:Nat) (o1:List Rat):=
 aU (MP tA x1 i x3) (fun _ h=>by cases h) FU (i1,o1)
def QU (tA:Graph) (x1:Jac) (i:Nat) (o:List Rat):St:=⟨87,0,[(1,.ptr 10 0 0),(2,.ptr 11 0 0),(3,.ptr 12 0 0),(16,I tA.Ins),(17,I (i:Int))],[(10,BOX [I tA.Ins,I tA.aG,I tA.aA,SL Edge.D tA.ah,SL K4 tA.Gone]),(11,BOX [I 0,I 0,fE]),(12,BOX [I x1.Rows,I x1.uQ,.msl 100012 0 none none]),(100012,ROW 3 Rat.D o 0)]⟩
def Qq (tA:Graph) (x1:Jac) (o:List Rat):St:=⟨87,0,[(2,.ptr 11 0 0),(3,.ptr 12 0 0)],[(11,BOX [I 0,I 0,fE]),(12,BOX [I x1.Rows,I x1.uQ,.msl 100012 0 none none]),(100012,ROW 3 Rat.D o 0)]⟩
def jP (tA:Graph) (x1:Jac) (i:Nat) (o:List Rat):Option ((Nat×List Rat)⊕(List Rat)):=let y1:=tA.Ins+tA.aG;let y0:=List.replicate ((y1+tA.aA).toNat) (Rat.mk false [] []);let y2:=i<y0.length;bif decide ((i:Int)<tA.Ins) then G3 y1<|G3 (y1+tA.aA)<|G1 (0<=y1+tA.aA)<|G1 ((y1+tA.aA).toNat<=2147483648)<|(vW 1).bind fun x2=>G1 y2<|G1 y2<|(Gu tA x1 i o 0 (y0.set i x2)).bind fun x3=>(Gs tA x1 i x3 0 o).bind fun x4=>G3 ((i:Int)+1)<|some (.inl (i+1,x4)) else some (.inr o)
theorem Qw (tA:Graph) (x1:Jac):∀σ:Nat×List Rat,aP Tryz.prog (nav [1,1,1,0,1,0,0] (aj Tryz.f30)) (fun (σ:Nat×List Rat)=>QU tA x1 σ.1 σ.2) (fun (_:List Rat)=>(.exit 0)) (fun (y:List Rat)=>Qq tA x1 y) σ (jP tA x1 σ.1 σ.2)
 | (i,o)=>let y0:=List.replicate (((tA.Ins+tA.aG)+tA.aA).toNat) (Rat.mk false [] []);aK 1010 (.br 100000018 (.op 70016 (.mk Rat.D (Rat.mk false [] []) .dn) (.call [] [] (uH 1) .no fun x2=>.op 80006 (.el Rat.D y0 (.up i)) (.op 80008 (.st Rat.D y0 x2) (.op 90004 (.ln Edge.D tA.ah) (K3 [1,2,3,4,5,16,17,34,35,36] [10,11,12,1010,100012] (.lp1 0 (LM tA x1 i o 0 (y0.set i x2)) fun x3=>K3 [1,2,3,4,5,16,17,60,61] [10,11,12,1010,100012] (.lp1 0 (MX tA x1 i x3 0 o) fun x4=>G4 [1,2,3,16,17] [10,11,12,100012] (.ret (.inl (i+1,x4)))))))))) (G4 [2,3] [11,12,100012] (.ret (.inr o))))
def KA (tA:Graph) (x1:Jac) (i:Nat) (o:List Rat):Option (List Rat):=aN (fun (σ:Nat×List Rat)=>jP tA x1 σ.1 σ.2) FU (i,o)
def QS (tA:Graph) (x1:Jac) (i:Nat) (o:List Rat):=
 aU (Qw tA x1) (fun _ h=>by cases h) FU (i,o)
def CZ (tA:Graph):Option Jac:=(jH tA).bind fun x0=>bif !x0 then some (Jac.mk 0 0 []) else (uT tA).bind fun x1=>(KA tA x1 0 x1.All).bind fun x2=>some (Jac.mk x1.Rows x1.uQ x2)
theorem Y5 (tA:Graph):∀r,CZ tA=some r->ak Tryz.prog 30 0 [AG Graph.D tA] [] (AG Jac.D r) []:=
 ay 10 (.call [] [] (l9 tA) .no fun x0=>.br 100000011 (.ps 1000003 [.b 11] (.ret (Jac.mk 0 0 []))) (.call [] [100012] (OE tA) .no fun x1=>K3 [1,2,3,16,17] [10,11,12,100012] (.lp1 0 (QS tA x1 0 x1.All) fun x2=>.ps 1000003 [.b 11] (.ret (Jac.mk x1.Rows x1.uQ x2))))) Tryz.func30
end Go.Ab.M
