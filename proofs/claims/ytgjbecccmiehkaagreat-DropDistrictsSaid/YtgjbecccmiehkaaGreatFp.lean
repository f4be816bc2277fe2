/- Texts of the proof. -/
import Derived.Test.YtgjbecccmiehkaaGreatBase
import Derived.Test.YtgjbecccmiehkaaGreatOpsA
import Derived.Test.YtgjbecccmiehkaaGreatProg
set_option linter.unusedSimpArgs false
set_option linter.unusedVariables false
set_option maxRecDepth 100000
namespace Go.AM
open Go.Proofs
def qa:List Nat:=[0,1,2,781,521,522,96,529,524,10,532,526,165,533,527,77,132,133,543,540,544,545,534,28,29,30,31,32,535,144,541,219,37,27,83,84,85,86,87,167,40,216,557,550,179,551,558,22,23,547,181,182,183,184,552,553,554,555,556,41,113,114,115,116,117,118,93,119,120,121,122,203,204,205,206,207,208,209,210,211,50,51,567,568,569,570,571,572,573,574,36,187,220,189,221,222,564,565,566,186,33,52,131,161,162,163,164,239,54,55,240,241,582,583,584,224,227,251,252,253,254,255,175,223,429,430,198,199,200,201,202,272,585,259,260,276,277,278,235,236,237,238,280,287,288,289,290,291,292,293,294,295,296,297,270,271,298,299,300,301,302,303,282,283,284,285,304,305,59,60,61,62,63,64,65,66,67,68,69,70,71,72,73,74]
def Db:List (Nat×Nat):=[(9,9)]
noncomputable def X0:TrEnv:=⟨Tryz.prog,fun F=>qa[F]?,fun t=> (Db.find? (·.1==t)).map (·.2)⟩
abbrev CF (h:Hints) (F:Func):Type:={f:bF // xA X0 h F=some f}
abbrev aW (h:Hints) (F:Func) (p:CF h F:=by exact⟨_,by conv=>lhs;cbv⟩):CF h F:=p
def iN:aM→List aM
 | .seq a b=>iN a++iN b
 | .block _ a=>iN a
 | .scope a=>iN a
 | .cond _ a b=>iN a++iN b
 | .loop a=>iN a++[a]
 | .mh _ _ _ a=>iN a
 | _=> []
abbrev By (f:bF) (i:Nat):aM:=(iN f.body).getD i .skip
end Go.AM
