import Derived.Test.YteajmbanlohncaaCall
namespace Go.Proofs.Yteajmbanlohncaa
namespace Ev
end Ev
end Go.Proofs.Yteajmbanlohncaa
